-- Written for this claim by wip/tools/myprint.py (print.py's forms; proofs of the faked functions by hand).
import Derived.Test.YtjhopebkflgcbaaPRunsKeepsx2
import Derived.Test.YtjhopebkflgcbaaPRunsKeepsx3
import Derived.Test.YtjhopebkflgcbaaPRunsKeepsx4
import Derived.Test.YtjhopebkflgcbaaPRunsKeepsx0
import Derived.Test.YtjhopebkflgcbaaPRunsKeepsx1
namespace Go.Proofs.Ytjhopebkflgcbaa.PRunsKeeps
open Go.RowKit Go.Proofs.YtjhopebkflgcbaaW.PrintWords Go.Proofs.YtjhopebkflgcbaaW.PrintLast Go.Proofs.YtjhopebkflgcbaaW.PrintMore
attribute [local go_sem] max2_int min2_int max_two min_two max_three min_three max_four min_four   -- for this text's walks alone
set_option linter.unusedVariables false
set_option linter.unusedSimpArgs false

attribute [local go_sem high] eqA25
/-! ### chamberlainref09_May: function 11 -/
def chamberlainref09_May.f (a0_0 : Int) (a0_1 : Int) (a0_2 : Int) (a0_3 : Int) (a0_4 : Int) (a0_5 : Int) (a0_6 : Int) (a0_7 : Int) (a0_8 : Int) : Option (Bool) := if a0_0 = 1 then (if a0_1 = 1 then (if a0_8 = 1 then (some true) else (if a0_8 = 2 then (some true) else (some (a0_8 == 3)))) else (if a0_1 = 2 then (if a0_8 = 1 then (some true) else (if a0_8 = 2 then (some true) else (some (a0_8 == 3)))) else (some false))) else (if a0_0 = 2 then (if a0_1 = 1 then (if a0_8 = 1 then (some true) else (if a0_8 = 2 then (some true) else (some (a0_8 == 3)))) else (if a0_1 = 2 then (if a0_8 = 1 then (some true) else (if a0_8 = 2 then (some true) else (some (a0_8 == 3)))) else (some false))) else (some false))
set_option maxHeartbeats 8000000 in
set_option maxRecDepth 100000 in
theorem chamberlainref09_May.calls (a0_0 : Int) (a0_1 : Int) (a0_2 : Int) (a0_3 : Int) (a0_4 : Int) (a0_5 : Int) (a0_6 : Int) (a0_7 : Int) (a0_8 : Int) (r : Bool) (w : World) (h : chamberlainref09_May.f a0_0 a0_1 a0_2 a0_3 a0_4 a0_5 a0_6 a0_7 a0_8 = some r) :
    Calls Try.prog 11 #[.agg #[.int .i64 a0_0, .int .i64 a0_1, .int .u32 a0_2, .int .u32 a0_3, .int .u32 a0_4, .int .u32 a0_5, .int .u32 a0_6, .int .u32 a0_7, .int .i64 a0_8]] w fun e w' => e = .returned (.bool r) ∧ Below w.heap.size w w' := by
  have hu25 := Try.underlying25
  have HB := Aside0.mk (Below.refl w.heap.size w)
  have H : (if a0_0 = 1 then (if a0_1 = 1 then (if a0_8 = 1 then (some true) else (if a0_8 = 2 then (some true) else (some (a0_8 == 3)))) else (if a0_1 = 2 then (if a0_8 = 1 then (some true) else (if a0_8 = 2 then (some true) else (some (a0_8 == 3)))) else (some false))) else (if a0_0 = 2 then (if a0_1 = 1 then (if a0_8 = 1 then (some true) else (if a0_8 = 2 then (some true) else (some (a0_8 == 3)))) else (if a0_1 = 2 then (if a0_8 = 1 then (some true) else (if a0_8 = 2 then (some true) else (some (a0_8 == 3)))) else (some false))) else (some false))) = some r := h
  clear h
  by_cases c2 : a0_0 = 1
  · rw [if_pos c2] at H
    have c2b0 : (a0_0 == 1) = true := beq_iff_eq.mpr c2
    have c2b1 : (a0_0 != 1) = false := bne_eq_false_iff_eq.mpr c2
    clear c2
    by_cases c3 : a0_1 = 1
    · rw [if_pos c3] at H
      have c3b0 : (a0_1 == 1) = true := beq_iff_eq.mpr c3
      have c3b1 : (a0_1 != 1) = false := bne_eq_false_iff_eq.mpr c3
      clear c3
      by_cases c4 : a0_8 = 1
      · rw [if_pos c4] at H
        have c4b0 : (a0_8 == 1) = true := beq_iff_eq.mpr c4
        have c4b1 : (a0_8 != 1) = false := bne_eq_false_iff_eq.mpr c4
        clear c4
        obtain rfl := Option.some.inj H
        go_enter Try.func11, Try.ntmps11
        go_wp2_with (first | ((with_reducible refine gate_dst (N := 1) rfl ?_); refine box_event ?hg (N := 1) ?hd (cs := #[.int .i64 a0_0, .int .i64 a0_1, .int .u32 a0_2, .int .u32 a0_3, .int .u32 a0_4, .int .u32 a0_5, .int .u32 a0_6, .int .u32 a0_7, .int .i64 a0_8]) (t := 25) ?hr ?_; (case hd => rfl); (case hg => rfl); (case hr => first | (go_simp; done) | (go_simp; rfl)); intro gb181 hg w5 hbox hb; have n0_ := Aside0.mk (bs_ hb); have n1_ := Aside0.mk (hbox); have n3_ := Aside0.mk ((ge_ hg : w.heap.size ≤ gb181)); clear HB; have HB := n0_; have BK181 := n1_; have GE181 := n3_; clear n0_ n1_ n3_; clear hb hbox hg; have ⟨hcz6_0, hcz6_1, hcz6_2, hcz6_3, hcz6_4, hcz6_5, hcz6_6, hcz6_7, hcz6_8⟩ := cz9_ BK181.out; have ⟨hfz6_0, hfz6_1, hfz6_2, hfz6_3, hfz6_4, hfz6_5, hfz6_6, hfz6_7, hfz6_8⟩ := fz9_ BK181.out))
        go_ret
        exact ⟨by first | rfl | (simp [errW_none, errW_some] <;> rfl) | (simp [*, errW_none, errW_some] <;> rfl), by repeat (first | (with_reducible first | exact HB.out | apply below_alloc | apply pw_below_drewN | apply below_drew1 | refine below_set ?_ GE181.out) | exact HB.out)⟩
      · rw [if_neg c4] at H
        have c4b0 : (a0_8 == 1) = false := beq_eq_false_iff_ne.mpr c4
        have c4b1 : (a0_8 != 1) = true := bne_iff_ne.mpr c4
        by_cases c7 : a0_8 = 2
        · rw [if_pos c7] at H
          have c7b0 : (a0_8 == 2) = true := beq_iff_eq.mpr c7
          have c7b1 : (a0_8 != 2) = false := bne_eq_false_iff_eq.mpr c7
          clear c7
          obtain rfl := Option.some.inj H
          go_enter Try.func11, Try.ntmps11
          go_wp2_with (first | ((with_reducible refine gate_dst (N := 1) rfl ?_); refine box_event ?hg (N := 1) ?hd (cs := #[.int .i64 a0_0, .int .i64 a0_1, .int .u32 a0_2, .int .u32 a0_3, .int .u32 a0_4, .int .u32 a0_5, .int .u32 a0_6, .int .u32 a0_7, .int .i64 a0_8]) (t := 25) ?hr ?_; (case hd => rfl); (case hg => rfl); (case hr => first | (go_simp; done) | (go_simp; rfl)); intro gb181 hg w8 hbox hb; have n0_ := Aside0.mk (bs_ hb); have n1_ := Aside0.mk (hbox); have n3_ := Aside0.mk ((ge_ hg : w.heap.size ≤ gb181)); clear HB; have HB := n0_; have BK181 := n1_; have GE181 := n3_; clear n0_ n1_ n3_; clear hb hbox hg; have ⟨hcz9_0, hcz9_1, hcz9_2, hcz9_3, hcz9_4, hcz9_5, hcz9_6, hcz9_7, hcz9_8⟩ := cz9_ BK181.out; have ⟨hfz9_0, hfz9_1, hfz9_2, hfz9_3, hfz9_4, hfz9_5, hfz9_6, hfz9_7, hfz9_8⟩ := fz9_ BK181.out))
          go_ret
          exact ⟨by first | rfl | (simp [errW_none, errW_some] <;> rfl) | (simp [*, errW_none, errW_some] <;> rfl), by repeat (first | (with_reducible first | exact HB.out | apply below_alloc | apply pw_below_drewN | apply below_drew1 | refine below_set ?_ GE181.out) | exact HB.out)⟩
        · rw [if_neg c7] at H
          have c7b0 : (a0_8 == 2) = false := beq_eq_false_iff_ne.mpr c7
          have c7b1 : (a0_8 != 2) = true := bne_iff_ne.mpr c7
          obtain rfl := Option.some.inj H
          go_enter Try.func11, Try.ntmps11
          go_wp2_with (first | ((with_reducible refine gate_dst (N := 1) rfl ?_); refine box_event ?hg (N := 1) ?hd (cs := #[.int .i64 a0_0, .int .i64 a0_1, .int .u32 a0_2, .int .u32 a0_3, .int .u32 a0_4, .int .u32 a0_5, .int .u32 a0_6, .int .u32 a0_7, .int .i64 a0_8]) (t := 25) ?hr ?_; (case hd => rfl); (case hg => rfl); (case hr => first | (go_simp; done) | (go_simp; rfl)); intro gb181 hg w10 hbox hb; have n0_ := Aside0.mk (bs_ hb); have n1_ := Aside0.mk (hbox); have n3_ := Aside0.mk ((ge_ hg : w.heap.size ≤ gb181)); clear HB; have HB := n0_; have BK181 := n1_; have GE181 := n3_; clear n0_ n1_ n3_; clear hb hbox hg; have ⟨hcz11_0, hcz11_1, hcz11_2, hcz11_3, hcz11_4, hcz11_5, hcz11_6, hcz11_7, hcz11_8⟩ := cz9_ BK181.out; have ⟨hfz11_0, hfz11_1, hfz11_2, hfz11_3, hfz11_4, hfz11_5, hfz11_6, hfz11_7, hfz11_8⟩ := fz9_ BK181.out))
          go_ret
          exact ⟨by first | rfl | (simp [errW_none, errW_some] <;> rfl) | (simp [*, errW_none, errW_some] <;> rfl), by repeat (first | (with_reducible first | exact HB.out | apply below_alloc | apply pw_below_drewN | apply below_drew1 | refine below_set ?_ GE181.out) | exact HB.out)⟩
    · rw [if_neg c3] at H
      have c3b0 : (a0_1 == 1) = false := beq_eq_false_iff_ne.mpr c3
      have c3b1 : (a0_1 != 1) = true := bne_iff_ne.mpr c3
      by_cases c12 : a0_1 = 2
      · rw [if_pos c12] at H
        have c12b0 : (a0_1 == 2) = true := beq_iff_eq.mpr c12
        have c12b1 : (a0_1 != 2) = false := bne_eq_false_iff_eq.mpr c12
        clear c12
        by_cases c13 : a0_8 = 1
        · rw [if_pos c13] at H
          have c13b0 : (a0_8 == 1) = true := beq_iff_eq.mpr c13
          have c13b1 : (a0_8 != 1) = false := bne_eq_false_iff_eq.mpr c13
          clear c13
          obtain rfl := Option.some.inj H
          go_enter Try.func11, Try.ntmps11
          go_wp2_with (first | ((with_reducible refine gate_dst (N := 1) rfl ?_); refine box_event ?hg (N := 1) ?hd (cs := #[.int .i64 a0_0, .int .i64 a0_1, .int .u32 a0_2, .int .u32 a0_3, .int .u32 a0_4, .int .u32 a0_5, .int .u32 a0_6, .int .u32 a0_7, .int .i64 a0_8]) (t := 25) ?hr ?_; (case hd => rfl); (case hg => rfl); (case hr => first | (go_simp; done) | (go_simp; rfl)); intro gb181 hg w14 hbox hb; have n0_ := Aside0.mk (bs_ hb); have n1_ := Aside0.mk (hbox); have n3_ := Aside0.mk ((ge_ hg : w.heap.size ≤ gb181)); clear HB; have HB := n0_; have BK181 := n1_; have GE181 := n3_; clear n0_ n1_ n3_; clear hb hbox hg; have ⟨hcz15_0, hcz15_1, hcz15_2, hcz15_3, hcz15_4, hcz15_5, hcz15_6, hcz15_7, hcz15_8⟩ := cz9_ BK181.out; have ⟨hfz15_0, hfz15_1, hfz15_2, hfz15_3, hfz15_4, hfz15_5, hfz15_6, hfz15_7, hfz15_8⟩ := fz9_ BK181.out))
          go_ret
          exact ⟨by first | rfl | (simp [errW_none, errW_some] <;> rfl) | (simp [*, errW_none, errW_some] <;> rfl), by repeat (first | (with_reducible first | exact HB.out | apply below_alloc | apply pw_below_drewN | apply below_drew1 | refine below_set ?_ GE181.out) | exact HB.out)⟩
        · rw [if_neg c13] at H
          have c13b0 : (a0_8 == 1) = false := beq_eq_false_iff_ne.mpr c13
          have c13b1 : (a0_8 != 1) = true := bne_iff_ne.mpr c13
          by_cases c16 : a0_8 = 2
          · rw [if_pos c16] at H
            have c16b0 : (a0_8 == 2) = true := beq_iff_eq.mpr c16
            have c16b1 : (a0_8 != 2) = false := bne_eq_false_iff_eq.mpr c16
            clear c16
            obtain rfl := Option.some.inj H
            go_enter Try.func11, Try.ntmps11
            go_wp2_with (first | ((with_reducible refine gate_dst (N := 1) rfl ?_); refine box_event ?hg (N := 1) ?hd (cs := #[.int .i64 a0_0, .int .i64 a0_1, .int .u32 a0_2, .int .u32 a0_3, .int .u32 a0_4, .int .u32 a0_5, .int .u32 a0_6, .int .u32 a0_7, .int .i64 a0_8]) (t := 25) ?hr ?_; (case hd => rfl); (case hg => rfl); (case hr => first | (go_simp; done) | (go_simp; rfl)); intro gb181 hg w17 hbox hb; have n0_ := Aside0.mk (bs_ hb); have n1_ := Aside0.mk (hbox); have n3_ := Aside0.mk ((ge_ hg : w.heap.size ≤ gb181)); clear HB; have HB := n0_; have BK181 := n1_; have GE181 := n3_; clear n0_ n1_ n3_; clear hb hbox hg; have ⟨hcz18_0, hcz18_1, hcz18_2, hcz18_3, hcz18_4, hcz18_5, hcz18_6, hcz18_7, hcz18_8⟩ := cz9_ BK181.out; have ⟨hfz18_0, hfz18_1, hfz18_2, hfz18_3, hfz18_4, hfz18_5, hfz18_6, hfz18_7, hfz18_8⟩ := fz9_ BK181.out))
            go_ret
            exact ⟨by first | rfl | (simp [errW_none, errW_some] <;> rfl) | (simp [*, errW_none, errW_some] <;> rfl), by repeat (first | (with_reducible first | exact HB.out | apply below_alloc | apply pw_below_drewN | apply below_drew1 | refine below_set ?_ GE181.out) | exact HB.out)⟩
          · rw [if_neg c16] at H
            have c16b0 : (a0_8 == 2) = false := beq_eq_false_iff_ne.mpr c16
            have c16b1 : (a0_8 != 2) = true := bne_iff_ne.mpr c16
            obtain rfl := Option.some.inj H
            go_enter Try.func11, Try.ntmps11
            go_wp2_with (first | ((with_reducible refine gate_dst (N := 1) rfl ?_); refine box_event ?hg (N := 1) ?hd (cs := #[.int .i64 a0_0, .int .i64 a0_1, .int .u32 a0_2, .int .u32 a0_3, .int .u32 a0_4, .int .u32 a0_5, .int .u32 a0_6, .int .u32 a0_7, .int .i64 a0_8]) (t := 25) ?hr ?_; (case hd => rfl); (case hg => rfl); (case hr => first | (go_simp; done) | (go_simp; rfl)); intro gb181 hg w19 hbox hb; have n0_ := Aside0.mk (bs_ hb); have n1_ := Aside0.mk (hbox); have n3_ := Aside0.mk ((ge_ hg : w.heap.size ≤ gb181)); clear HB; have HB := n0_; have BK181 := n1_; have GE181 := n3_; clear n0_ n1_ n3_; clear hb hbox hg; have ⟨hcz20_0, hcz20_1, hcz20_2, hcz20_3, hcz20_4, hcz20_5, hcz20_6, hcz20_7, hcz20_8⟩ := cz9_ BK181.out; have ⟨hfz20_0, hfz20_1, hfz20_2, hfz20_3, hfz20_4, hfz20_5, hfz20_6, hfz20_7, hfz20_8⟩ := fz9_ BK181.out))
            go_ret
            exact ⟨by first | rfl | (simp [errW_none, errW_some] <;> rfl) | (simp [*, errW_none, errW_some] <;> rfl), by repeat (first | (with_reducible first | exact HB.out | apply below_alloc | apply pw_below_drewN | apply below_drew1 | refine below_set ?_ GE181.out) | exact HB.out)⟩
      · rw [if_neg c12] at H
        have c12b0 : (a0_1 == 2) = false := beq_eq_false_iff_ne.mpr c12
        have c12b1 : (a0_1 != 2) = true := bne_iff_ne.mpr c12
        obtain rfl := Option.some.inj H
        go_enter Try.func11, Try.ntmps11
        go_wp2_with (first | ((with_reducible refine gate_dst (N := 1) rfl ?_); refine box_event ?hg (N := 1) ?hd (cs := #[.int .i64 a0_0, .int .i64 a0_1, .int .u32 a0_2, .int .u32 a0_3, .int .u32 a0_4, .int .u32 a0_5, .int .u32 a0_6, .int .u32 a0_7, .int .i64 a0_8]) (t := 25) ?hr ?_; (case hd => rfl); (case hg => rfl); (case hr => first | (go_simp; done) | (go_simp; rfl)); intro gb181 hg w21 hbox hb; have n0_ := Aside0.mk (bs_ hb); have n1_ := Aside0.mk (hbox); have n3_ := Aside0.mk ((ge_ hg : w.heap.size ≤ gb181)); clear HB; have HB := n0_; have BK181 := n1_; have GE181 := n3_; clear n0_ n1_ n3_; clear hb hbox hg; have ⟨hcz22_0, hcz22_1, hcz22_2, hcz22_3, hcz22_4, hcz22_5, hcz22_6, hcz22_7, hcz22_8⟩ := cz9_ BK181.out; have ⟨hfz22_0, hfz22_1, hfz22_2, hfz22_3, hfz22_4, hfz22_5, hfz22_6, hfz22_7, hfz22_8⟩ := fz9_ BK181.out))
        go_ret
        exact ⟨by first | rfl | (simp [errW_none, errW_some] <;> rfl) | (simp [*, errW_none, errW_some] <;> rfl), by repeat (first | (with_reducible first | exact HB.out | apply below_alloc | apply pw_below_drewN | apply below_drew1 | refine below_set ?_ GE181.out) | exact HB.out)⟩
  · rw [if_neg c2] at H
    have c2b0 : (a0_0 == 1) = false := beq_eq_false_iff_ne.mpr c2
    have c2b1 : (a0_0 != 1) = true := bne_iff_ne.mpr c2
    by_cases c23 : a0_0 = 2
    · rw [if_pos c23] at H
      have c23b0 : (a0_0 == 2) = true := beq_iff_eq.mpr c23
      have c23b1 : (a0_0 != 2) = false := bne_eq_false_iff_eq.mpr c23
      clear c23
      by_cases c24 : a0_1 = 1
      · rw [if_pos c24] at H
        have c24b0 : (a0_1 == 1) = true := beq_iff_eq.mpr c24
        have c24b1 : (a0_1 != 1) = false := bne_eq_false_iff_eq.mpr c24
        clear c24
        by_cases c25 : a0_8 = 1
        · rw [if_pos c25] at H
          have c25b0 : (a0_8 == 1) = true := beq_iff_eq.mpr c25
          have c25b1 : (a0_8 != 1) = false := bne_eq_false_iff_eq.mpr c25
          clear c25
          obtain rfl := Option.some.inj H
          go_enter Try.func11, Try.ntmps11
          go_wp2_with (first | ((with_reducible refine gate_dst (N := 1) rfl ?_); refine box_event ?hg (N := 1) ?hd (cs := #[.int .i64 a0_0, .int .i64 a0_1, .int .u32 a0_2, .int .u32 a0_3, .int .u32 a0_4, .int .u32 a0_5, .int .u32 a0_6, .int .u32 a0_7, .int .i64 a0_8]) (t := 25) ?hr ?_; (case hd => rfl); (case hg => rfl); (case hr => first | (go_simp; done) | (go_simp; rfl)); intro gb181 hg w26 hbox hb; have n0_ := Aside0.mk (bs_ hb); have n1_ := Aside0.mk (hbox); have n3_ := Aside0.mk ((ge_ hg : w.heap.size ≤ gb181)); clear HB; have HB := n0_; have BK181 := n1_; have GE181 := n3_; clear n0_ n1_ n3_; clear hb hbox hg; have ⟨hcz27_0, hcz27_1, hcz27_2, hcz27_3, hcz27_4, hcz27_5, hcz27_6, hcz27_7, hcz27_8⟩ := cz9_ BK181.out; have ⟨hfz27_0, hfz27_1, hfz27_2, hfz27_3, hfz27_4, hfz27_5, hfz27_6, hfz27_7, hfz27_8⟩ := fz9_ BK181.out))
          go_ret
          exact ⟨by first | rfl | (simp [errW_none, errW_some] <;> rfl) | (simp [*, errW_none, errW_some] <;> rfl), by repeat (first | (with_reducible first | exact HB.out | apply below_alloc | apply pw_below_drewN | apply below_drew1 | refine below_set ?_ GE181.out) | exact HB.out)⟩
        · rw [if_neg c25] at H
          have c25b0 : (a0_8 == 1) = false := beq_eq_false_iff_ne.mpr c25
          have c25b1 : (a0_8 != 1) = true := bne_iff_ne.mpr c25
          by_cases c28 : a0_8 = 2
          · rw [if_pos c28] at H
            have c28b0 : (a0_8 == 2) = true := beq_iff_eq.mpr c28
            have c28b1 : (a0_8 != 2) = false := bne_eq_false_iff_eq.mpr c28
            clear c28
            obtain rfl := Option.some.inj H
            go_enter Try.func11, Try.ntmps11
            go_wp2_with (first | ((with_reducible refine gate_dst (N := 1) rfl ?_); refine box_event ?hg (N := 1) ?hd (cs := #[.int .i64 a0_0, .int .i64 a0_1, .int .u32 a0_2, .int .u32 a0_3, .int .u32 a0_4, .int .u32 a0_5, .int .u32 a0_6, .int .u32 a0_7, .int .i64 a0_8]) (t := 25) ?hr ?_; (case hd => rfl); (case hg => rfl); (case hr => first | (go_simp; done) | (go_simp; rfl)); intro gb181 hg w29 hbox hb; have n0_ := Aside0.mk (bs_ hb); have n1_ := Aside0.mk (hbox); have n3_ := Aside0.mk ((ge_ hg : w.heap.size ≤ gb181)); clear HB; have HB := n0_; have BK181 := n1_; have GE181 := n3_; clear n0_ n1_ n3_; clear hb hbox hg; have ⟨hcz30_0, hcz30_1, hcz30_2, hcz30_3, hcz30_4, hcz30_5, hcz30_6, hcz30_7, hcz30_8⟩ := cz9_ BK181.out; have ⟨hfz30_0, hfz30_1, hfz30_2, hfz30_3, hfz30_4, hfz30_5, hfz30_6, hfz30_7, hfz30_8⟩ := fz9_ BK181.out))
            go_ret
            exact ⟨by first | rfl | (simp [errW_none, errW_some] <;> rfl) | (simp [*, errW_none, errW_some] <;> rfl), by repeat (first | (with_reducible first | exact HB.out | apply below_alloc | apply pw_below_drewN | apply below_drew1 | refine below_set ?_ GE181.out) | exact HB.out)⟩
          · rw [if_neg c28] at H
            have c28b0 : (a0_8 == 2) = false := beq_eq_false_iff_ne.mpr c28
            have c28b1 : (a0_8 != 2) = true := bne_iff_ne.mpr c28
            obtain rfl := Option.some.inj H
            go_enter Try.func11, Try.ntmps11
            go_wp2_with (first | ((with_reducible refine gate_dst (N := 1) rfl ?_); refine box_event ?hg (N := 1) ?hd (cs := #[.int .i64 a0_0, .int .i64 a0_1, .int .u32 a0_2, .int .u32 a0_3, .int .u32 a0_4, .int .u32 a0_5, .int .u32 a0_6, .int .u32 a0_7, .int .i64 a0_8]) (t := 25) ?hr ?_; (case hd => rfl); (case hg => rfl); (case hr => first | (go_simp; done) | (go_simp; rfl)); intro gb181 hg w31 hbox hb; have n0_ := Aside0.mk (bs_ hb); have n1_ := Aside0.mk (hbox); have n3_ := Aside0.mk ((ge_ hg : w.heap.size ≤ gb181)); clear HB; have HB := n0_; have BK181 := n1_; have GE181 := n3_; clear n0_ n1_ n3_; clear hb hbox hg; have ⟨hcz32_0, hcz32_1, hcz32_2, hcz32_3, hcz32_4, hcz32_5, hcz32_6, hcz32_7, hcz32_8⟩ := cz9_ BK181.out; have ⟨hfz32_0, hfz32_1, hfz32_2, hfz32_3, hfz32_4, hfz32_5, hfz32_6, hfz32_7, hfz32_8⟩ := fz9_ BK181.out))
            go_ret
            exact ⟨by first | rfl | (simp [errW_none, errW_some] <;> rfl) | (simp [*, errW_none, errW_some] <;> rfl), by repeat (first | (with_reducible first | exact HB.out | apply below_alloc | apply pw_below_drewN | apply below_drew1 | refine below_set ?_ GE181.out) | exact HB.out)⟩
      · rw [if_neg c24] at H
        have c24b0 : (a0_1 == 1) = false := beq_eq_false_iff_ne.mpr c24
        have c24b1 : (a0_1 != 1) = true := bne_iff_ne.mpr c24
        by_cases c33 : a0_1 = 2
        · rw [if_pos c33] at H
          have c33b0 : (a0_1 == 2) = true := beq_iff_eq.mpr c33
          have c33b1 : (a0_1 != 2) = false := bne_eq_false_iff_eq.mpr c33
          clear c33
          by_cases c34 : a0_8 = 1
          · rw [if_pos c34] at H
            have c34b0 : (a0_8 == 1) = true := beq_iff_eq.mpr c34
            have c34b1 : (a0_8 != 1) = false := bne_eq_false_iff_eq.mpr c34
            clear c34
            obtain rfl := Option.some.inj H
            go_enter Try.func11, Try.ntmps11
            go_wp2_with (first | ((with_reducible refine gate_dst (N := 1) rfl ?_); refine box_event ?hg (N := 1) ?hd (cs := #[.int .i64 a0_0, .int .i64 a0_1, .int .u32 a0_2, .int .u32 a0_3, .int .u32 a0_4, .int .u32 a0_5, .int .u32 a0_6, .int .u32 a0_7, .int .i64 a0_8]) (t := 25) ?hr ?_; (case hd => rfl); (case hg => rfl); (case hr => first | (go_simp; done) | (go_simp; rfl)); intro gb181 hg w35 hbox hb; have n0_ := Aside0.mk (bs_ hb); have n1_ := Aside0.mk (hbox); have n3_ := Aside0.mk ((ge_ hg : w.heap.size ≤ gb181)); clear HB; have HB := n0_; have BK181 := n1_; have GE181 := n3_; clear n0_ n1_ n3_; clear hb hbox hg; have ⟨hcz36_0, hcz36_1, hcz36_2, hcz36_3, hcz36_4, hcz36_5, hcz36_6, hcz36_7, hcz36_8⟩ := cz9_ BK181.out; have ⟨hfz36_0, hfz36_1, hfz36_2, hfz36_3, hfz36_4, hfz36_5, hfz36_6, hfz36_7, hfz36_8⟩ := fz9_ BK181.out))
            go_ret
            exact ⟨by first | rfl | (simp [errW_none, errW_some] <;> rfl) | (simp [*, errW_none, errW_some] <;> rfl), by repeat (first | (with_reducible first | exact HB.out | apply below_alloc | apply pw_below_drewN | apply below_drew1 | refine below_set ?_ GE181.out) | exact HB.out)⟩
          · rw [if_neg c34] at H
            have c34b0 : (a0_8 == 1) = false := beq_eq_false_iff_ne.mpr c34
            have c34b1 : (a0_8 != 1) = true := bne_iff_ne.mpr c34
            by_cases c37 : a0_8 = 2
            · rw [if_pos c37] at H
              have c37b0 : (a0_8 == 2) = true := beq_iff_eq.mpr c37
              have c37b1 : (a0_8 != 2) = false := bne_eq_false_iff_eq.mpr c37
              clear c37
              obtain rfl := Option.some.inj H
              go_enter Try.func11, Try.ntmps11
              go_wp2_with (first | ((with_reducible refine gate_dst (N := 1) rfl ?_); refine box_event ?hg (N := 1) ?hd (cs := #[.int .i64 a0_0, .int .i64 a0_1, .int .u32 a0_2, .int .u32 a0_3, .int .u32 a0_4, .int .u32 a0_5, .int .u32 a0_6, .int .u32 a0_7, .int .i64 a0_8]) (t := 25) ?hr ?_; (case hd => rfl); (case hg => rfl); (case hr => first | (go_simp; done) | (go_simp; rfl)); intro gb181 hg w38 hbox hb; have n0_ := Aside0.mk (bs_ hb); have n1_ := Aside0.mk (hbox); have n3_ := Aside0.mk ((ge_ hg : w.heap.size ≤ gb181)); clear HB; have HB := n0_; have BK181 := n1_; have GE181 := n3_; clear n0_ n1_ n3_; clear hb hbox hg; have ⟨hcz39_0, hcz39_1, hcz39_2, hcz39_3, hcz39_4, hcz39_5, hcz39_6, hcz39_7, hcz39_8⟩ := cz9_ BK181.out; have ⟨hfz39_0, hfz39_1, hfz39_2, hfz39_3, hfz39_4, hfz39_5, hfz39_6, hfz39_7, hfz39_8⟩ := fz9_ BK181.out))
              go_ret
              exact ⟨by first | rfl | (simp [errW_none, errW_some] <;> rfl) | (simp [*, errW_none, errW_some] <;> rfl), by repeat (first | (with_reducible first | exact HB.out | apply below_alloc | apply pw_below_drewN | apply below_drew1 | refine below_set ?_ GE181.out) | exact HB.out)⟩
            · rw [if_neg c37] at H
              have c37b0 : (a0_8 == 2) = false := beq_eq_false_iff_ne.mpr c37
              have c37b1 : (a0_8 != 2) = true := bne_iff_ne.mpr c37
              obtain rfl := Option.some.inj H
              go_enter Try.func11, Try.ntmps11
              go_wp2_with (first | ((with_reducible refine gate_dst (N := 1) rfl ?_); refine box_event ?hg (N := 1) ?hd (cs := #[.int .i64 a0_0, .int .i64 a0_1, .int .u32 a0_2, .int .u32 a0_3, .int .u32 a0_4, .int .u32 a0_5, .int .u32 a0_6, .int .u32 a0_7, .int .i64 a0_8]) (t := 25) ?hr ?_; (case hd => rfl); (case hg => rfl); (case hr => first | (go_simp; done) | (go_simp; rfl)); intro gb181 hg w40 hbox hb; have n0_ := Aside0.mk (bs_ hb); have n1_ := Aside0.mk (hbox); have n3_ := Aside0.mk ((ge_ hg : w.heap.size ≤ gb181)); clear HB; have HB := n0_; have BK181 := n1_; have GE181 := n3_; clear n0_ n1_ n3_; clear hb hbox hg; have ⟨hcz41_0, hcz41_1, hcz41_2, hcz41_3, hcz41_4, hcz41_5, hcz41_6, hcz41_7, hcz41_8⟩ := cz9_ BK181.out; have ⟨hfz41_0, hfz41_1, hfz41_2, hfz41_3, hfz41_4, hfz41_5, hfz41_6, hfz41_7, hfz41_8⟩ := fz9_ BK181.out))
              go_ret
              exact ⟨by first | rfl | (simp [errW_none, errW_some] <;> rfl) | (simp [*, errW_none, errW_some] <;> rfl), by repeat (first | (with_reducible first | exact HB.out | apply below_alloc | apply pw_below_drewN | apply below_drew1 | refine below_set ?_ GE181.out) | exact HB.out)⟩
        · rw [if_neg c33] at H
          have c33b0 : (a0_1 == 2) = false := beq_eq_false_iff_ne.mpr c33
          have c33b1 : (a0_1 != 2) = true := bne_iff_ne.mpr c33
          obtain rfl := Option.some.inj H
          go_enter Try.func11, Try.ntmps11
          go_wp2_with (first | ((with_reducible refine gate_dst (N := 1) rfl ?_); refine box_event ?hg (N := 1) ?hd (cs := #[.int .i64 a0_0, .int .i64 a0_1, .int .u32 a0_2, .int .u32 a0_3, .int .u32 a0_4, .int .u32 a0_5, .int .u32 a0_6, .int .u32 a0_7, .int .i64 a0_8]) (t := 25) ?hr ?_; (case hd => rfl); (case hg => rfl); (case hr => first | (go_simp; done) | (go_simp; rfl)); intro gb181 hg w42 hbox hb; have n0_ := Aside0.mk (bs_ hb); have n1_ := Aside0.mk (hbox); have n3_ := Aside0.mk ((ge_ hg : w.heap.size ≤ gb181)); clear HB; have HB := n0_; have BK181 := n1_; have GE181 := n3_; clear n0_ n1_ n3_; clear hb hbox hg; have ⟨hcz43_0, hcz43_1, hcz43_2, hcz43_3, hcz43_4, hcz43_5, hcz43_6, hcz43_7, hcz43_8⟩ := cz9_ BK181.out; have ⟨hfz43_0, hfz43_1, hfz43_2, hfz43_3, hfz43_4, hfz43_5, hfz43_6, hfz43_7, hfz43_8⟩ := fz9_ BK181.out))
          go_ret
          exact ⟨by first | rfl | (simp [errW_none, errW_some] <;> rfl) | (simp [*, errW_none, errW_some] <;> rfl), by repeat (first | (with_reducible first | exact HB.out | apply below_alloc | apply pw_below_drewN | apply below_drew1 | refine below_set ?_ GE181.out) | exact HB.out)⟩
    · rw [if_neg c23] at H
      have c23b0 : (a0_0 == 2) = false := beq_eq_false_iff_ne.mpr c23
      have c23b1 : (a0_0 != 2) = true := bne_iff_ne.mpr c23
      obtain rfl := Option.some.inj H
      go_enter Try.func11, Try.ntmps11
      go_wp2_with (first | ((with_reducible refine gate_dst (N := 1) rfl ?_); refine box_event ?hg (N := 1) ?hd (cs := #[.int .i64 a0_0, .int .i64 a0_1, .int .u32 a0_2, .int .u32 a0_3, .int .u32 a0_4, .int .u32 a0_5, .int .u32 a0_6, .int .u32 a0_7, .int .i64 a0_8]) (t := 25) ?hr ?_; (case hd => rfl); (case hg => rfl); (case hr => first | (go_simp; done) | (go_simp; rfl)); intro gb181 hg w44 hbox hb; have n0_ := Aside0.mk (bs_ hb); have n1_ := Aside0.mk (hbox); have n3_ := Aside0.mk ((ge_ hg : w.heap.size ≤ gb181)); clear HB; have HB := n0_; have BK181 := n1_; have GE181 := n3_; clear n0_ n1_ n3_; clear hb hbox hg; have ⟨hcz45_0, hcz45_1, hcz45_2, hcz45_3, hcz45_4, hcz45_5, hcz45_6, hcz45_7, hcz45_8⟩ := cz9_ BK181.out; have ⟨hfz45_0, hfz45_1, hfz45_2, hfz45_3, hfz45_4, hfz45_5, hfz45_6, hfz45_7, hfz45_8⟩ := fz9_ BK181.out))
      go_ret
      exact ⟨by first | rfl | (simp [errW_none, errW_some] <;> rfl) | (simp [*, errW_none, errW_some] <;> rfl), by repeat (first | (with_reducible first | exact HB.out | apply below_alloc | apply pw_below_drewN | apply below_drew1 | refine below_set ?_ GE181.out) | exact HB.out)⟩

/-! ### chamberlainref09_Right: function 9 -/
def chamberlainref09_Right.l0 : Nat → List (S25) → Int → Int → Option (Bool)
  | 0, _, _, _ => none
  | k + 1, x0, x1, x5 => if x5 < (x0.length : Int) then (if 0 ≤ x5 then ((chamberlainref09_May.f ((rd_T25 x0 x5).f0) ((rd_T25 x0 x5).f1) ((rd_T25 x0 x5).f2) ((rd_T25 x0 x5).f3) ((rd_T25 x0 x5).f4) ((rd_T25 x0 x5).f5) ((rd_T25 x0 x5).f6) ((rd_T25 x0 x5).f7) ((rd_T25 x0 x5).f8)).bind fun t183 => (if t183 = true then (chamberlainref09_Right.l0 k x0 x1 (wrap64 (x5 + 1))) else (some false))) else (none)) else (some (decide ((x0.length : Int) ≤ x1)))
def chamberlainref09_Right.f (k : Nat) (l0 : List (S25)) (a1 : Int) : Option (Bool) := chamberlainref09_Right.l0 k l0 a1 0
theorem chamberlainref09_Right.mono_l : ∀ k, (∀ y0 y1 y2, LeO (chamberlainref09_Right.l0 k y0 y1 y2) (chamberlainref09_Right.l0 (k + 1) y0 y1 y2))
  | 0 => fun _ _ _ r h => by simp [chamberlainref09_Right.l0] at h
  | k + 1 => by
    have ih0 := chamberlainref09_Right.mono_l k
    · intro y0 y1 y2
      unfold chamberlainref09_Right.l0
      repeat' first
      | (with_reducible exact ih0 _ _ _)
      | (with_reducible exact LeO.refl _)
      | (with_reducible exact LeO.none _)
      | (with_reducible refine LeO.ite ?_ ?_)
      | (with_reducible refine LeO.bind ?_ (fun _ => ?_))
      | exact ih0 _ _ _
      | exact LeO.none _
      | refine LeO.ite ?_ ?_
      | refine LeO.bind ?_ (fun _ => ?_)
theorem chamberlainref09_Right.mono : ∀ a0 a1 k, LeO (chamberlainref09_Right.f k a0 a1) (chamberlainref09_Right.f (k + 1) a0 a1) := by
  intro a0 a1 k
  have ih0 := chamberlainref09_Right.mono_l k
  unfold chamberlainref09_Right.f
  repeat' first
      | (with_reducible exact ih0 _ _ _)
      | (with_reducible exact LeO.refl _)
      | (with_reducible exact LeO.none _)
      | (with_reducible refine LeO.ite ?_ ?_)
      | (with_reducible refine LeO.bind ?_ (fun _ => ?_))
      | exact ih0 _ _ _
      | exact LeO.none _
      | refine LeO.ite ?_ ?_
      | refine LeO.bind ?_ (fun _ => ?_)
set_option maxHeartbeats 8000000 in
set_option maxRecDepth 100000 in
theorem chamberlainref09_Right.calls (k : Nat) (A0 : Option Addr) (c0 : Nat) (l0 : List (S25)) (a1 : Int) (r : Bool) (w : World) (hr0 : Kd.C k25 w A0 l0.length l0) (hc0 : l0.length ≤ c0) (h : chamberlainref09_Right.f k l0 a1 = some r) :
    Calls Try.prog 9 #[.slice A0 l0.length c0, .int .i64 a1] w fun e w' => e = .returned (.bool r) ∧ Below w.heap.size w w' := by
  have hu25 := Try.underlying25
  have HR0 := Aside0.mk hr0
  have HC0 := Aside0.mk hc0
  clear hr0 hc0
  have HB := Aside0.mk (Below.refl w.heap.size w)
  have H : (chamberlainref09_Right.l0 k l0 a1 0) = some r := h
  clear h
  have H' := Aside0.mk H
  clear H
  go_enter Try.func9, Try.ntmps9
  go_wp2
  go_loopg [5] k (fun kq v5 w' => ∃ (x5_1 : Int), v5 = .int .i64 x5_1 ∧ Aside0 (chamberlainref09_Right.l0 kq l0 a1 x5_1 = some r) ∧ Aside0 (kq ≤ k) ∧ Aside0 (Below w.heap.size w w'))
  case atStart => exact ⟨(0), (by first | rfl | (simp; done) | (simp [*]; done)), H', ⟨Nat.le_refl _⟩, ⟨by repeat (first | (with_reducible first | exact HB.out | apply below_alloc | apply pw_below_drewN | apply below_drew1) | exact HB.out)⟩⟩
  case round =>
    clear H'
    try clear p2
    obtain ⟨x5_1, rfl, HA, HK1, HB⟩ := hrel
    cases gk with
    | zero => exact absurd HA.out (by simp [chamberlainref09_Right.l0])
    | succ k1 =>
      have H := HA.out
      clear HA
      simp only [chamberlainref09_Right.l0] at H
      by_cases c3 : x5_1 < (l0.length : Int)
      · rw [if_pos c3] at H
        have c3b0 : decide (x5_1 < (l0.length : Int)) = true := decide_eq_true c3
        clear c3
        by_cases c4 : 0 ≤ x5_1
        · rw [if_pos c4] at H
          have c4b0 : decide (0 ≤ x5_1) = true := decide_eq_true c4
          clear c4
          replace H := Option.bind_eq_some_iff.mp H
          obtain ⟨t183, A50, H⟩ := H
          replace H : (if t183 = true then (chamberlainref09_Right.l0 k1 l0 a1 (wrap64 (x5_1 + 1))) else (some false)) = some r := H
          have A5 := Aside0.mk A50
          clear A50
          by_cases c6 : t183 = true
          · subst c6
            have H1 : (chamberlainref09_Right.l0 k1 l0 a1 (wrap64 (x5_1 + 1))) = some r := by rw [if_pos rfl] at H; exact H
            clear H
            have H := H1
            clear H1
            have H' := Aside0.mk H
            clear H
            have p182 : 0 ≤ (x5_1 : Int) := of_decide_eq_true (by first | (with_reducible assumption) | assumption)
            have q182 : x5_1 < (l0.length : Int) := of_decide_eq_true (by first | (with_reducible assumption) | assumption)
            obtain ⟨ad182, e182, hx182_0, hx182_1, hx182_2, hx182_3, hx182_4, hx182_5, hx182_6, hx182_7, hx182_8⟩ := at_T25 HR0.out x5_1 p182 q182
            cases e182
            replace hx182_0 := (HB.out.cell (World.block_lt_of_cell? w _ hx182_0)).trans hx182_0
            replace hx182_1 := (HB.out.cell (World.block_lt_of_cell? w _ hx182_1)).trans hx182_1
            replace hx182_2 := (HB.out.cell (World.block_lt_of_cell? w _ hx182_2)).trans hx182_2
            replace hx182_3 := (HB.out.cell (World.block_lt_of_cell? w _ hx182_3)).trans hx182_3
            replace hx182_4 := (HB.out.cell (World.block_lt_of_cell? w _ hx182_4)).trans hx182_4
            replace hx182_5 := (HB.out.cell (World.block_lt_of_cell? w _ hx182_5)).trans hx182_5
            replace hx182_6 := (HB.out.cell (World.block_lt_of_cell? w _ hx182_6)).trans hx182_6
            replace hx182_7 := (HB.out.cell (World.block_lt_of_cell? w _ hx182_7)).trans hx182_7
            replace hx182_8 := (HB.out.cell (World.block_lt_of_cell? w _ hx182_8)).trans hx182_8
            replace p182 := eq_true p182
            replace q182 := eq_true q182
            go_wp2_with (first | ((with_reducible refine gate_callee (f := 11) rfl ?_); refine goesL_ (some 16) rfl rfl Try.func11 (by kernel_rfl) rfl #[.agg #[.int .i64 ((rd_T25 l0 x5_1).f0), .int .i64 ((rd_T25 l0 x5_1).f1), .int .u32 ((rd_T25 l0 x5_1).f2), .int .u32 ((rd_T25 l0 x5_1).f3), .int .u32 ((rd_T25 l0 x5_1).f4), .int .u32 ((rd_T25 l0 x5_1).f5), .int .u32 ((rd_T25 l0 x5_1).f6), .int .u32 ((rd_T25 l0 x5_1).f7), .int .i64 ((rd_T25 l0 x5_1).f8)]] rfl (by (try simp only [List.map_toArray, List.map_cons, List.map_nil]); first | done | rfl | (simp only [List.length_drop, List.length_take]; rfl)) ?_; (with_reducible refine (chamberlainref09_May.calls ((rd_T25 l0 x5_1).f0) ((rd_T25 l0 x5_1).f1) ((rd_T25 l0 x5_1).f2) ((rd_T25 l0 x5_1).f3) ((rd_T25 l0 x5_1).f4) ((rd_T25 l0 x5_1).f5) ((rd_T25 l0 x5_1).f6) ((rd_T25 l0 x5_1).f7) ((rd_T25 l0 x5_1).f8) true _ A5.out).mono ?_); rintro e w7 ⟨rfl, hb⟩; refine ⟨_, rfl, ?_⟩; have n0_ := Aside0.mk (below_step (by repeat (first | (with_reducible first | exact HB.out | apply below_alloc | apply pw_below_drewN | apply below_drew1) | exact HB.out)) hb); clear HB; have HB := n0_; clear n0_; (try clear hb); (try clear hb2); (try clear hk); (try clear hi)))
            go_roundg k1
            case measure => have := HK1.out; omega
            case rel => exact ⟨(wrap64 (x5_1 + 1)), (by first | rfl | (simp; done) | (simp [*]; done)), H', ⟨by have := HK1.out; omega⟩, ⟨by repeat (first | (with_reducible first | exact HB.out | apply below_alloc | apply pw_below_drewN | apply below_drew1) | exact HB.out)⟩⟩
          · replace c6 := Bool.eq_false_iff.mpr c6
            subst c6
            have H1 : (some false) = some r := by rw [if_neg (show ¬ (false = true) by decide)] at H; exact H
            clear H
            have H := H1
            clear H1
            obtain rfl := Option.some.inj H
            have p182 : 0 ≤ (x5_1 : Int) := of_decide_eq_true (by first | (with_reducible assumption) | assumption)
            have q182 : x5_1 < (l0.length : Int) := of_decide_eq_true (by first | (with_reducible assumption) | assumption)
            obtain ⟨ad182, e182, hx182_0, hx182_1, hx182_2, hx182_3, hx182_4, hx182_5, hx182_6, hx182_7, hx182_8⟩ := at_T25 HR0.out x5_1 p182 q182
            cases e182
            replace hx182_0 := (HB.out.cell (World.block_lt_of_cell? w _ hx182_0)).trans hx182_0
            replace hx182_1 := (HB.out.cell (World.block_lt_of_cell? w _ hx182_1)).trans hx182_1
            replace hx182_2 := (HB.out.cell (World.block_lt_of_cell? w _ hx182_2)).trans hx182_2
            replace hx182_3 := (HB.out.cell (World.block_lt_of_cell? w _ hx182_3)).trans hx182_3
            replace hx182_4 := (HB.out.cell (World.block_lt_of_cell? w _ hx182_4)).trans hx182_4
            replace hx182_5 := (HB.out.cell (World.block_lt_of_cell? w _ hx182_5)).trans hx182_5
            replace hx182_6 := (HB.out.cell (World.block_lt_of_cell? w _ hx182_6)).trans hx182_6
            replace hx182_7 := (HB.out.cell (World.block_lt_of_cell? w _ hx182_7)).trans hx182_7
            replace hx182_8 := (HB.out.cell (World.block_lt_of_cell? w _ hx182_8)).trans hx182_8
            replace p182 := eq_true p182
            replace q182 := eq_true q182
            go_wp2_with (first | ((with_reducible refine gate_callee (f := 11) rfl ?_); refine goesL_ (some 16) rfl rfl Try.func11 (by kernel_rfl) rfl #[.agg #[.int .i64 ((rd_T25 l0 x5_1).f0), .int .i64 ((rd_T25 l0 x5_1).f1), .int .u32 ((rd_T25 l0 x5_1).f2), .int .u32 ((rd_T25 l0 x5_1).f3), .int .u32 ((rd_T25 l0 x5_1).f4), .int .u32 ((rd_T25 l0 x5_1).f5), .int .u32 ((rd_T25 l0 x5_1).f6), .int .u32 ((rd_T25 l0 x5_1).f7), .int .i64 ((rd_T25 l0 x5_1).f8)]] rfl (by (try simp only [List.map_toArray, List.map_cons, List.map_nil]); first | done | rfl | (simp only [List.length_drop, List.length_take]; rfl)) ?_; (with_reducible refine (chamberlainref09_May.calls ((rd_T25 l0 x5_1).f0) ((rd_T25 l0 x5_1).f1) ((rd_T25 l0 x5_1).f2) ((rd_T25 l0 x5_1).f3) ((rd_T25 l0 x5_1).f4) ((rd_T25 l0 x5_1).f5) ((rd_T25 l0 x5_1).f6) ((rd_T25 l0 x5_1).f7) ((rd_T25 l0 x5_1).f8) false _ A5.out).mono ?_); rintro e w8 ⟨rfl, hb⟩; refine ⟨_, rfl, ?_⟩; have n0_ := Aside0.mk (below_step (by repeat (first | (with_reducible first | exact HB.out | apply below_alloc | apply pw_below_drewN | apply below_drew1) | exact HB.out)) hb); clear HB; have HB := n0_; clear n0_; (try clear hb); (try clear hb2); (try clear hk); (try clear hi)))
            go_ret
            exact ⟨by first | rfl | (simp [errW_none, errW_some] <;> rfl) | (simp [*, errW_none, errW_some] <;> rfl), by repeat (first | (with_reducible first | exact HB.out | apply below_alloc | apply pw_below_drewN | apply below_drew1) | exact HB.out)⟩
        · rw [if_neg c4] at H
          exact absurd H (by simp)
      · rw [if_neg c3] at H
        have c3b0 : decide (x5_1 < (l0.length : Int)) = false := decide_eq_false c3
        clear c3
        obtain rfl := Option.some.inj H
        go_wp2
        go_ret
        exact ⟨by first | rfl | (simp [errW_none, errW_some] <;> rfl) | (simp [*, errW_none, errW_some] <;> rfl), by repeat (first | (with_reducible first | exact HB.out | apply below_alloc | apply pw_below_drewN | apply below_drew1) | exact HB.out)⟩

/-! ### chamberlainref09_Add: function 13 -/
def chamberlainref09_Add.f (l0 : List (S25)) (a1 : Int) (a2_0 : Int) (a2_1 : Int) (a2_2 : Int) (a2_3 : Int) (a2_4 : Int) (a2_5 : Int) (a2_6 : Int) (a2_7 : Int) (a2_8 : Int) : Option ((List (S25)) × Int) := (chamberlainref09_May.f a2_0 a2_1 a2_2 a2_3 a2_4 a2_5 a2_6 a2_7 a2_8).bind fun t185 => (if t185 = true then (if (l0.length : Int) ≥ a1 then (some (l0, 10)) else ((some (([] : List (S25)) : List (S25))).bind fun y186 => (if y186.length + l0.length < 2932031007402 then ((some (y186 ++ l0 : List (S25))).bind fun y189 => ((some (([(⟨a2_0, a2_1, a2_2, a2_3, a2_4, a2_5, a2_6, a2_7, a2_8⟩ : S25)] : List (S25)) : List (S25))).bind fun y192 => (if y189.length + y192.length < 2932031007402 then (some ((y189 ++ y192), 0)) else (none)))) else (none)))) else (some (l0, 1)))
def chamberlainref09_Add.T5 : Bool × List (List Nat × List Nat) := (true, [([], []), ([], []), ([0, 1], [0, 1]), ([], []), ([3], [3]), ([2, 4, 2], [2, 4]), ([5, 5, 0, 1, 2, 3, 4, 5], [5]), ([6, 0, 1, 2, 3, 4, 5, 6], [])])
def chamberlainref09_Add.B5 : List Nat := [0, 0, 3, 0, 8, 31, 63, 127]
theorem chamberlainref09_Add.tab5 : rtab .any (opsOf Try.f13 5) = chamberlainref09_Add.T5 := by kernel_rfl
theorem chamberlainref09_Add.bits5 : waitsOk chamberlainref09_Add.T5.2 chamberlainref09_Add.B5 = true := by kernel_rfl
set_option maxHeartbeats 8000000 in
set_option maxRecDepth 100000 in
theorem chamberlainref09_Add.calls (P0_ : Nat → Prop) (A0 : Option Addr) (c0 : Nat) (l0 : List (S25)) (a1 : Int) (a2_0 : Int) (a2_1 : Int) (a2_2 : Int) (a2_3 : Int) (a2_4 : Int) (a2_5 : Int) (a2_6 : Int) (a2_7 : Int) (a2_8 : Int) (r1 : List (S25)) (r2 : Int) (w : World) (hs0 : Kd.V k25 25 w w.heap.size (fun k_ => P0_ k_) (.slice A0 l0.length c0) l0) (h : chamberlainref09_Add.f l0 a1 a2_0 a2_1 a2_2 a2_3 a2_4 a2_5 a2_6 a2_7 a2_8 = some (r1, r2)) :
    Calls Try.prog 13 #[.slice A0 l0.length c0, .int .i64 a1, .agg #[.int .i64 a2_0, .int .i64 a2_1, .int .u32 a2_2, .int .u32 a2_3, .int .u32 a2_4, .int .u32 a2_5, .int .u32 a2_6, .int .u32 a2_7, .int .i64 a2_8]] w fun e w' => ∃ v0_ : Value, e = .returned (.tuple #[v0_, .int .i64 r2]) ∧ Kd.V k25 25 w' w.heap.size (fun k_ => (P0_ k_ ∨ w.heap.size ≤ k_)) v0_ r1 ∧ Below w.heap.size w w' := by
  have hu25 := Try.underlying25
  have HO0 := Aside0.mk (show Kd.V k25 25 w w.heap.size (fun k_ => (P0_ k_ ∨ w.heap.size ≤ k_)) (.slice A0 l0.length c0) l0 from Kd.V_mono hs0 (fun k_ hk => .inl hk))
  have HB := Aside0.mk (Below.refl w.heap.size w)
  have H : ((chamberlainref09_May.f a2_0 a2_1 a2_2 a2_3 a2_4 a2_5 a2_6 a2_7 a2_8).bind fun t185 => (if t185 = true then (if (l0.length : Int) ≥ a1 then (some (l0, 10)) else ((some (([] : List (S25)) : List (S25))).bind fun y186 => (if y186.length + l0.length < 2932031007402 then ((some (y186 ++ l0 : List (S25))).bind fun y189 => ((some (([(⟨a2_0, a2_1, a2_2, a2_3, a2_4, a2_5, a2_6, a2_7, a2_8⟩ : S25)] : List (S25)) : List (S25))).bind fun y192 => (if y189.length + y192.length < 2932031007402 then (some ((y189 ++ y192), 0)) else (none)))) else (none)))) else (some (l0, 1)))) = some (r1, r2) := h
  clear h
  replace H := Option.bind_eq_some_iff.mp H
  obtain ⟨t185, A40, H⟩ := H
  replace H : (if t185 = true then (if (l0.length : Int) ≥ a1 then (some (l0, 10)) else ((some (([] : List (S25)) : List (S25))).bind fun y186 => (if y186.length + l0.length < 2932031007402 then ((some (y186 ++ l0 : List (S25))).bind fun y189 => ((some (([(⟨a2_0, a2_1, a2_2, a2_3, a2_4, a2_5, a2_6, a2_7, a2_8⟩ : S25)] : List (S25)) : List (S25))).bind fun y192 => (if y189.length + y192.length < 2932031007402 then (some ((y189 ++ y192), 0)) else (none)))) else (none)))) else (some (l0, 1))) = some (r1, r2) := H
  have A4 := Aside0.mk A40
  clear A40
  by_cases c5 : t185 = true
  · subst c5
    have H1 : (if (l0.length : Int) ≥ a1 then (some (l0, 10)) else ((some (([] : List (S25)) : List (S25))).bind fun y186 => (if y186.length + l0.length < 2932031007402 then ((some (y186 ++ l0 : List (S25))).bind fun y189 => ((some (([(⟨a2_0, a2_1, a2_2, a2_3, a2_4, a2_5, a2_6, a2_7, a2_8⟩ : S25)] : List (S25)) : List (S25))).bind fun y192 => (if y189.length + y192.length < 2932031007402 then (some ((y189 ++ y192), 0)) else (none)))) else (none)))) = some (r1, r2) := by rw [if_pos rfl] at H; exact H
    clear H
    have H := H1
    clear H1
    by_cases c6 : (l0.length : Int) ≥ a1
    · rw [if_pos c6] at H
      have c6b0 : decide (a1 ≤ (l0.length : Int)) = true := decide_eq_true c6
      clear c6
      simp only [Option.some.injEq, Prod.mk.injEq] at H
      obtain ⟨rfl, rfl⟩ := H
      go_enter Try.func13, Try.ntmps13
      go_wp2_with (first | ((with_reducible refine gate_dst (N := 5) rfl ?_); refine box_event ?hg (N := 5) ?hd (cs := #[.int .i64 a2_0, .int .i64 a2_1, .int .u32 a2_2, .int .u32 a2_3, .int .u32 a2_4, .int .u32 a2_5, .int .u32 a2_6, .int .u32 a2_7, .int .i64 a2_8]) (t := 25) ?hr ?_; (case hd => rfl); (case hg => rfl); (case hr => first | (go_simp; done) | (go_simp; rfl)); intro gb184 hg w7 hbox hb; have n0_ := Aside0.mk (ve_ HO0.out gb184 hg hb); have n1_ := Aside0.mk (bs_ hb); have n2_ := Aside0.mk (hbox); have n4_ := Aside0.mk ((ge_ hg : w.heap.size ≤ gb184)); clear HO0 HB; have HO0 := n0_; have HB := n1_; have BK184 := n2_; have GE184 := n4_; clear n0_ n1_ n2_ n4_; clear hb hbox hg; have ⟨hcz8_0, hcz8_1, hcz8_2, hcz8_3, hcz8_4, hcz8_5, hcz8_6, hcz8_7, hcz8_8⟩ := cz9_ BK184.out; have ⟨hfz8_0, hfz8_1, hfz8_2, hfz8_3, hfz8_4, hfz8_5, hfz8_6, hfz8_7, hfz8_8⟩ := fz9_ BK184.out) | ((with_reducible refine gate_callee (f := 11) rfl ?_); refine goesL_ (some 9) rfl rfl Try.func11 (by kernel_rfl) rfl #[.agg #[.int .i64 a2_0, .int .i64 a2_1, .int .u32 a2_2, .int .u32 a2_3, .int .u32 a2_4, .int .u32 a2_5, .int .u32 a2_6, .int .u32 a2_7, .int .i64 a2_8]] rfl (by (try simp only [List.map_toArray, List.map_cons, List.map_nil]); first | done | rfl | (simp only [List.length_drop, List.length_take]; rfl)) ?_; (with_reducible refine (chamberlainref09_May.calls a2_0 a2_1 a2_2 a2_3 a2_4 a2_5 a2_6 a2_7 a2_8 true _ A4.out).mono ?_); rintro e w9 ⟨rfl, hb⟩; refine ⟨_, rfl, ?_⟩; have n0_ := Aside0.mk (vb_ HO0.out hb); have n2_ := Aside0.mk (bs_ hb); clear HO0 BK184 HB; have HO0 := n0_; have HB := n2_; clear n0_ n2_; (try clear hb); (try clear hb2); (try clear hk); (try clear hi)))
      go_ret2
      exact ⟨_, by first | rfl | (simp [errW_none, errW_some] <;> rfl) | (simp [*, errW_none, errW_some] <;> rfl), by (with_reducible repeat (first | apply Kd.V_alloc | apply Kd.V_drewN | apply Kd.V_drew)); exact Kd.V_mono HO0.out (fun _ hk => hk.1), by repeat (first | (with_reducible first | exact HB.out | apply below_alloc | apply pw_below_drewN | apply below_drew1 | refine below_set ?_ GE184.out) | exact HB.out)⟩
    · rw [if_neg c6] at H
      have c6b0 : decide (a1 ≤ (l0.length : Int)) = false := decide_eq_false c6
      clear c6
      obtain ⟨y186, hy186⟩ : ∃ y_ : List (S25), y_ = (([] : List (S25))) := ⟨_, rfl⟩
      replace H : (if y186.length + l0.length < 2932031007402 then ((some (y186 ++ l0 : List (S25))).bind fun y189 => ((some (([(⟨a2_0, a2_1, a2_2, a2_3, a2_4, a2_5, a2_6, a2_7, a2_8⟩ : S25)] : List (S25)) : List (S25))).bind fun y192 => (if y189.length + y192.length < 2932031007402 then (some ((y189 ++ y192), 0)) else (none)))) else (none)) = some (r1, r2) := by first | (rw [hy186]; with_reducible exact H) | (have H2_ := (Option.bind_some _ _).symm.trans H; rw [hy186]; with_reducible exact H2_) | (have H2_ := (Option.bind_some _ _).symm.trans H; with_reducible exact H2_) | with_reducible exact H | (rw [hy186]; exact H) | exact H
      have Ny186 := Aside0.mk hy186
      clear hy186
      by_cases c10 : y186.length + l0.length < 2932031007402
      · rw [if_pos c10] at H
        have LMc10 := Aside0.mk c10
        clear c10
        obtain ⟨y189, hy189⟩ : ∃ y_ : List (S25), y_ = (y186 ++ l0) := ⟨_, rfl⟩
        replace H : ((some (([(⟨a2_0, a2_1, a2_2, a2_3, a2_4, a2_5, a2_6, a2_7, a2_8⟩ : S25)] : List (S25)) : List (S25))).bind fun y192 => (if y189.length + y192.length < 2932031007402 then (some ((y189 ++ y192), 0)) else (none))) = some (r1, r2) := by first | (rw [hy189]; with_reducible exact H) | (have H2_ := (Option.bind_some _ _).symm.trans H; rw [hy189]; with_reducible exact H2_) | (have H2_ := (Option.bind_some _ _).symm.trans H; with_reducible exact H2_) | with_reducible exact H | (rw [hy189]; exact H) | exact H
        have Ny189 := Aside0.mk hy189
        clear hy189
        obtain ⟨y192, hy192⟩ : ∃ y_ : List (S25), y_ = (([(⟨a2_0, a2_1, a2_2, a2_3, a2_4, a2_5, a2_6, a2_7, a2_8⟩ : S25)] : List (S25))) := ⟨_, rfl⟩
        replace H : (if y189.length + y192.length < 2932031007402 then (some ((y189 ++ y192), 0)) else (none)) = some (r1, r2) := by first | (rw [hy192]; with_reducible exact H) | (have H2_ := (Option.bind_some _ _).symm.trans H; rw [hy192]; with_reducible exact H2_) | (have H2_ := (Option.bind_some _ _).symm.trans H; with_reducible exact H2_) | with_reducible exact H | (rw [hy192]; exact H) | exact H
        have Ny192 := Aside0.mk hy192
        clear hy192
        by_cases c11 : y189.length + y192.length < 2932031007402
        · rw [if_pos c11] at H
          have LMc11 := Aside0.mk c11
          clear c11
          obtain ⟨y195, hy195⟩ : ∃ y_ : List (S25), y_ = (y189 ++ y192) := ⟨_, rfl⟩
          replace H : (some (y195, 0)) = some (r1, r2) := by first | (rw [hy195]; with_reducible exact H) | (have H2_ := (Option.bind_some _ _).symm.trans H; rw [hy195]; with_reducible exact H2_) | (have H2_ := (Option.bind_some _ _).symm.trans H; with_reducible exact H2_) | with_reducible exact H | (rw [hy195]; exact H) | exact H
          have Ny195 := Aside0.mk hy195
          clear hy195
          simp only [Option.some.injEq, Prod.mk.injEq] at H
          obtain ⟨rfl, rfl⟩ := H
          go_enter Try.func13, Try.ntmps13
          try go_wp2_with (first | ((with_reducible refine gate_dst (N := 5) rfl ?_); refine box_event ?hg (N := 5) ?hd (cs := #[.int .i64 a2_0, .int .i64 a2_1, .int .u32 a2_2, .int .u32 a2_3, .int .u32 a2_4, .int .u32 a2_5, .int .u32 a2_6, .int .u32 a2_7, .int .i64 a2_8]) (t := 25) ?hr ?_; (case hd => rfl); (case hg => rfl); (case hr => first | (go_simp; done) | (go_simp; rfl)); intro gb184 hg w12 hbox hb; have n0_ := Aside0.mk (ve_ HO0.out gb184 hg hb); have n1_ := Aside0.mk (bs_ hb); have n2_ := Aside0.mk (hbox); have n4_ := Aside0.mk ((ge_ hg : w.heap.size ≤ gb184)); clear HO0 HB; have HO0 := n0_; have HB := n1_; have BK184 := n2_; have GE184 := n4_; clear n0_ n1_ n2_ n4_; clear hb hbox hg; have ⟨hcz13_0, hcz13_1, hcz13_2, hcz13_3, hcz13_4, hcz13_5, hcz13_6, hcz13_7, hcz13_8⟩ := cz9_ BK184.out; have ⟨hfz13_0, hfz13_1, hfz13_2, hfz13_3, hfz13_4, hfz13_5, hfz13_6, hfz13_7, hfz13_8⟩ := fz9_ BK184.out) | ((with_reducible refine gate_callee (f := 11) rfl ?_); refine goesL_ (some 9) rfl rfl Try.func11 (by kernel_rfl) rfl #[.agg #[.int .i64 a2_0, .int .i64 a2_1, .int .u32 a2_2, .int .u32 a2_3, .int .u32 a2_4, .int .u32 a2_5, .int .u32 a2_6, .int .u32 a2_7, .int .i64 a2_8]] rfl (by (try simp only [List.map_toArray, List.map_cons, List.map_nil]); first | done | rfl | (simp only [List.length_drop, List.length_take]; rfl)) ?_; (with_reducible refine (chamberlainref09_May.calls a2_0 a2_1 a2_2 a2_3 a2_4 a2_5 a2_6 a2_7 a2_8 true _ A4.out).mono ?_); rintro e w14 ⟨rfl, hb⟩; refine ⟨_, rfl, ?_⟩; have n0_ := Aside0.mk (vb_ HO0.out hb); have n1_ := Aside0.mk (bb_ BK184.out hb); have n2_ := Aside0.mk (bs_ hb); clear HO0 BK184 HB; have HO0 := n0_; have BK184 := n1_; have HB := n2_; clear n0_ n1_ n2_; (try clear hb); (try clear hb2); (try clear hk); (try clear hi)))
          have n0_ := Aside0.mk (Kd.V_drew HO0.out)
          have n1_ := Aside0.mk (blk_drew BK184.out)
          have n2_ := Aside0.mk (below_drew1 HB.out)
          clear HO0 BK184 HB
          have HO0 := n0_
          have BK184 := n1_
          have HB := n2_
          clear n0_ n1_ n2_
          refine start_ (n := 8) (S := fun w' => w'.cell? ⟨gb184, 0, none⟩ = some (.int .i64 a2_0) ∧ w'.cell? ⟨gb184, 1, none⟩ = some (.int .i64 a2_1) ∧ w'.cell? ⟨gb184, 2, none⟩ = some (.int .u32 a2_2) ∧ w'.cell? ⟨gb184, 3, none⟩ = some (.int .u32 a2_3) ∧ w'.cell? ⟨gb184, 4, none⟩ = some (.int .u32 a2_4) ∧ w'.cell? ⟨gb184, 5, none⟩ = some (.int .u32 a2_5) ∧ w'.cell? ⟨gb184, 6, none⟩ = some (.int .u32 a2_6) ∧ w'.cell? ⟨gb184, 7, none⟩ = some (.int .u32 a2_7) ∧ w'.cell? ⟨gb184, 8, none⟩ = some (.int .i64 a2_8)) (ds := []) #[false, false, false, false, false, false, false, false] (by kernel_rfl) rfl rfl ⟨(blk_cell BK184.out 0).trans rfl, (blk_cell BK184.out 1).trans rfl, (blk_cell BK184.out 2).trans rfl, (blk_cell BK184.out 3).trans rfl, (blk_cell BK184.out 4).trans rfl, (blk_cell BK184.out 5).trans rfl, (blk_cell BK184.out 6).trans rfl, (blk_cell BK184.out 7).trans rfl, (blk_cell BK184.out 8).trans rfl⟩ (fun hHeld => ?_); refine with_tabW chamberlainref09_Add.tab5 chamberlainref09_Add.bits5 (fun HT_ HW_ => ?_)
          generalize w14.drew = w15 at HO0 BK184 HB hHeld ⊢
          refine pure_ (i := 1) (N := some 18) (v := ?_) (a' := ?_) #[false, true, false, false, false, false, false, false] rfl rfl (any_of HT_.out (by kernel_rfl)) (fun _ _ _ h => h) (Or.inl ⟨by rfl, ?_⟩) ?_ ?_
          rotate_left
          · intro w'
            go_simp
            with_reducible rfl
          rotate_left
          · simp only [Act.put, List.setIfInBounds_toArray, List.set_cons_zero, List.set_cons_succ, i64_w, i32_w]
            rfl
          refine take_ (i := 3) (N := some 20) (v := ?_) (a' := ?_) #[false, true, false, true, false, false, false, false] rfl rfl (take_ofW HT_.out HW_.out (by kernel_rfl)) (fun _ _ _ h => h) (Or.inl ⟨by rfl, ?_⟩) hHeld ?_ ?_
          rotate_left
          · rintro w' ⟨s0, s1, s2, s3, s4, s5, s6, s7, s8⟩
            go_simp
            with_reducible rfl
          rotate_left
          · simp only [Act.put, List.setIfInBounds_toArray, List.set_cons_zero, List.set_cons_succ, i64_w, i32_w]
            rfl
          refine join_ (σ := Value × Value × Value) 3 #[true, true, true, true, true, false, false, false] (fun s_ => [(17, s_.1), (19, s_.2.1), (21, s_.2.2)]) (fun s_ w' => (w'.cell? ⟨gb184, 0, none⟩ = some (.int .i64 a2_0) ∧ w'.cell? ⟨gb184, 1, none⟩ = some (.int .i64 a2_1) ∧ w'.cell? ⟨gb184, 2, none⟩ = some (.int .u32 a2_2) ∧ w'.cell? ⟨gb184, 3, none⟩ = some (.int .u32 a2_3) ∧ w'.cell? ⟨gb184, 4, none⟩ = some (.int .u32 a2_4) ∧ w'.cell? ⟨gb184, 5, none⟩ = some (.int .u32 a2_5) ∧ w'.cell? ⟨gb184, 6, none⟩ = some (.int .u32 a2_6) ∧ w'.cell? ⟨gb184, 7, none⟩ = some (.int .u32 a2_7) ∧ w'.cell? ⟨gb184, 8, none⟩ = some (.int .i64 a2_8)) ∧ (Kd.V k25 25 w' w.heap.size (fun k_ => (P0_ k_ ∨ w.heap.size ≤ k_) ∧ some k_ ≠ (s_.2.1 : Value).ownBlock ∧ some k_ ≠ (s_.2.2 : Value).ownBlock ∧ k_ ≠ gb184) (.slice A0 l0.length c0) l0) ∧ (Kd.R k25 25 w' w.heap.size (fun k_ => (w.heap.size ≤ k_) ∧ some k_ ≠ (s_.2.2 : Value).ownBlock ∧ k_ ≠ gb184) s_.2.1 y189) ∧ (Kd.R k25 25 w' w.heap.size (fun k_ => (w.heap.size ≤ k_) ∧ some k_ ≠ (s_.2.1 : Value).ownBlock ∧ k_ ≠ gb184) s_.2.2 y192) ∧ (w'.heap[gb184]? = some (.cells #[.int .i64 a2_0, .int .i64 a2_1, .int .u32 a2_2, .int .u32 a2_3, .int .u32 a2_4, .int .u32 a2_5, .int .u32 a2_6, .int .u32 a2_7, .int .i64 a2_8] 25 (0, 0))) ∧ (Below w.heap.size w w')) ?_ ?_
          rotate_left
          · intro hCont
            refine two_ (i := 0) (j := 4) (Ni := some 17) (Nj := some 21) #[true, true, false, true, false, false, false, false] #[false, true, false, true, true, false, false, false] rfl rfl rfl rfl (two_of HT_.out (by kernel_rfl)) (by decide) (by decide) (fun K hK => ?_) (fun K hK => ?_)
            · skip
              refine Kd.R_lit_step k25 _ 25 ?hg (N := 17) ?hd (xs := ([] : List (S25))) (inner := []) (ok := fun _ => True) (okp := fun _ => True) ?hr ?hp (fun _ hk => hk) trivial (Below.refl _ _) (Nat.le_refl _) (by simp) ?_; (case hd => rfl); (case hg => rfl); (case hr => first | (go_simp; done) | (go_simp; rfl)); (case hp => exact (Reps.none _ _))
              intro v187 w16 ho17 hb hg_ hnew_
              clear hg_ hnew_
              (first | rw [← Ny186.out] at ho17 | (simp only [Int.reduceToNat] at ho17; rw [← Ny186.out] at ho17))
              have n0_ := Aside0.mk (vf_ HO0.out (Kd.R_base ho17) hb)
              have n1_ := Aside0.mk (Kd.R_lower (Kd.R_newB (Kd.R_newM (M := fun k_ => (w.heap.size ≤ k_)) ho17 (below_size (by repeat (first | (with_reducible first | exact HB.out | apply below_alloc | apply pw_below_drewN | apply below_drew1 | refine below_set ?_ GE184.out) | exact HB.out))) (fun k_ h_ => h_)) (g := gb184) (o := .cells #[.int .i64 a2_0, .int .i64 a2_1, .int .u32 a2_2, .int .u32 a2_3, .int .u32 a2_4, .int .u32 a2_5, .int .u32 a2_6, .int .u32 a2_7, .int .i64 a2_8] 25 (0, 0)) (by (with_reducible repeat (first | refine blk_drewN ?_ _ | refine blk_drew ?_ | refine blk_alloc ?_ _)); exact BK184.out)) (below_size (by repeat (first | (with_reducible first | exact HB.out | apply below_alloc | apply pw_below_drewN | apply below_drew1 | refine below_set ?_ GE184.out) | exact HB.out))))
              have n2_ := Aside0.mk (bb_ BK184.out hb)
              have n3_ := Aside0.mk (bs_ hb)
              clear HO0 BK184 HB
              have HO0 := n0_
              have HO188 := n1_
              have BK184 := n2_
              have HB := n3_
              clear n0_ n1_ n2_ n3_
              clear hb ho17
              refine hK.out _ _ ⟨(blk_cell BK184.out 0).trans rfl, (blk_cell BK184.out 1).trans rfl, (blk_cell BK184.out 2).trans rfl, (blk_cell BK184.out 3).trans rfl, (blk_cell BK184.out 4).trans rfl, (blk_cell BK184.out 5).trans rfl, (blk_cell BK184.out 6).trans rfl, (blk_cell BK184.out 7).trans rfl, (blk_cell BK184.out 8).trans rfl⟩ (fun hHeld => ?_)
              clear hK K
              refine norm_ (a' := ?_) ?_ ?_
              rotate_left
              · show Act.put _ (some 17) _ = _
                simp only [Act.put, List.setIfInBounds_toArray, List.set_cons_zero, List.set_cons_succ, i64_w, i32_w]
                rfl
              refine two_ (i := 2) (j := 4) (Ni := some 19) (Nj := some 21) #[true, true, true, true, false, false, false, false] #[true, true, false, true, true, false, false, false] rfl rfl rfl rfl (two_of HT_.out (by kernel_rfl)) (by decide) (by decide) (fun K hK => ?_) (fun K hK => ?_)
              · skip
                refine Kd.R_append_rows_step k25 (w0 := w) w.heap.size (by rfl) (.tmp 17) (.tmp 18) 22 25 (.agg #[(.int .i64 0), (.int .i64 0), (.int .u32 0), (.int .u32 0), (.int .u32 0), (.int .u32 0), (.int .u32 0), (.int .u32 0), (.int .i64 0)]) 48 rfl Try.underlying22 info25 rfl (by decide) (by omega) v187 y186 l0 _ _ _ (fun k_ => (w.heap.size ≤ k_) ∧ k_ ≠ gb184) (fun _ => False) rfl rfl ?aO ?aR (fun _ _ h => h) (fun _ h => h.elim) ?aF ?aB ?aS ?aL ?_
                (case aR => repeat (first | exact (Kd.V_reads' HO0.out).2.2 | (with_reducible refine Kd.C_alloc ?_ _) | (with_reducible refine Kd.C_drewN ?_ _) | (with_reducible refine Kd.C_drew ?_)))
                (case aB => exact (by repeat (first | (with_reducible first | exact HB.out | apply below_alloc | apply pw_below_drewN | apply below_drew1 | refine below_set ?_ GE184.out) | exact HB.out)))
                (case aF => exact (fun k_ hk => ⟨(Nat.le_trans (below_size (by repeat (first | (with_reducible first | exact HB.out | apply below_alloc | apply pw_below_drewN | apply below_drew1 | refine below_set ?_ GE184.out) | exact HB.out))) hk), fb_ BK184.out k_ hk⟩))
                (case aO => exact (by (with_reducible repeat (first | apply Kd.R_alloc | apply Kd.R_drewN | apply Kd.R_drew)); exact Kd.R_mono HO188.out (fun _ hk => ⟨hk.1.1, hk.2⟩)))
                (case aS => exact (below_size (by repeat (first | (with_reducible first | exact HB.out | apply below_alloc | apply pw_below_drewN | apply below_drew1 | refine below_set ?_ GE184.out) | exact HB.out))))
                (case aL => have := LMc10.out; omega)
                intro v190 w18 ho hb hg hat
                rw [← Ny189.out] at ho
                have n0_ := Aside0.mk (Kd.V_afterv (ok := (fun k_ => (P0_ k_ ∨ w.heap.size ≤ k_) ∧ k_ ≠ gb184)) (by (with_reducible repeat (first | apply Kd.V_alloc | apply Kd.V_drewN | apply Kd.V_drew)); exact HO0.out) hg hat)
                have n1_ := Aside0.mk (blk_grown (g := gb184) (o := .cells #[.int .i64 a2_0, .int .i64 a2_1, .int .u32 a2_2, .int .u32 a2_3, .int .u32 a2_4, .int .u32 a2_5, .int .u32 a2_6, .int .u32 a2_7, .int .i64 a2_8] 25 (0, 0)) (by (with_reducible repeat (first | refine blk_drewN ?_ _ | refine blk_drew ?_ | refine blk_alloc ?_ _)); exact BK184.out) hg (Kd.R_away HO188.out (fun _ hk => hk.2)))
                have n2_ := Aside0.mk (hb)
                have n3_ := Aside0.mk (ho)
                clear HO0 BK184 HB HO188
                have HO0 := n0_
                have BK184 := n1_
                have HB := n2_
                have HO191 := n3_
                clear n0_ n1_ n2_ n3_
                clear ho hb hg hat
                refine hK.out _ _ ⟨(blk_cell BK184.out 0).trans rfl, (blk_cell BK184.out 1).trans rfl, (blk_cell BK184.out 2).trans rfl, (blk_cell BK184.out 3).trans rfl, (blk_cell BK184.out 4).trans rfl, (blk_cell BK184.out 5).trans rfl, (blk_cell BK184.out 6).trans rfl, (blk_cell BK184.out 7).trans rfl, (blk_cell BK184.out 8).trans rfl⟩ (fun hHeld => ?_)
                clear hK K
                refine norm_ (a' := ?_) ?_ ?_
                rotate_left
                · show Act.put _ (some 19) _ = _
                  simp only [Act.put, List.setIfInBounds_toArray, List.set_cons_zero, List.set_cons_succ, i64_w, i32_w]
                  rfl
                refine one_ (i := 4) (N := some 21) #[true, true, true, true, true, false, false, false] rfl rfl (one_of HT_.out (by kernel_rfl)) (by decide) (fun K hK => ?_)
                refine Kd.R_lit_step k25 _ 25 ?hg (N := 21) ?hd (xs := ([(⟨a2_0, a2_1, a2_2, a2_3, a2_4, a2_5, a2_6, a2_7, a2_8⟩ : S25)] : List (S25))) (inner := [.int .i64 a2_0, .int .i64 a2_1, .int .u32 a2_2, .int .u32 a2_3, .int .u32 a2_4, .int .u32 a2_5, .int .u32 a2_6, .int .u32 a2_7, .int .i64 a2_8]) (ok := fun _ => True) (okp := fun _ => True) ?hr ?hp (fun _ hk => hk) trivial (Below.refl _ _) (Nat.le_refl _) (by simp) ?_; (case hd => rfl); (case hg => rfl); (case hr => first | (go_simp; done) | (go_simp; rfl)); (case hp => exact (Reps.c9 (show Kd.M k25 _ _ _ (⟨a2_0, a2_1, a2_2, a2_3, a2_4, a2_5, a2_6, a2_7, a2_8⟩ : S25) [.int .i64 a2_0, .int .i64 a2_1, .int .u32 a2_2, .int .u32 a2_3, .int .u32 a2_4, .int .u32 a2_5, .int .u32 a2_6, .int .u32 a2_7, .int .i64 a2_8] from (k25_mkM _ _ _ (⟨a2_0, a2_1, a2_2, a2_3, a2_4, a2_5, a2_6, a2_7, a2_8⟩ : S25) )) (Reps.none _ _)))
                intro v193 w19 ho20 hb hg_ hnew_
                clear hg_ hnew_
                (first | rw [← Ny192.out] at ho20 | (simp only [Int.reduceToNat] at ho20; rw [← Ny192.out] at ho20))
                have n0_ := Aside0.mk (vf_ HO0.out (Kd.R_base ho20) hb)
                have n1_ := Aside0.mk (rf_ HO191.out (Kd.R_base ho20) hb)
                have n2_ := Aside0.mk (Kd.R_lower (Kd.R_newB (Kd.R_new' (Kd.R_newM (M := fun k_ => (w.heap.size ≤ k_)) ho20 (below_size (by repeat (first | (with_reducible first | exact HB.out | apply below_alloc | apply pw_below_drewN | apply below_drew1 | refine below_set ?_ GE184.out) | exact HB.out))) (fun k_ h_ => h_)) (Kd.R_lt (by (with_reducible repeat (first | apply Kd.R_alloc | apply Kd.R_drewN | apply Kd.R_drew)); exact HO191.out))) (g := gb184) (o := .cells #[.int .i64 a2_0, .int .i64 a2_1, .int .u32 a2_2, .int .u32 a2_3, .int .u32 a2_4, .int .u32 a2_5, .int .u32 a2_6, .int .u32 a2_7, .int .i64 a2_8] 25 (0, 0)) (by (with_reducible repeat (first | refine blk_drewN ?_ _ | refine blk_drew ?_ | refine blk_alloc ?_ _)); exact BK184.out)) (below_size (by repeat (first | (with_reducible first | exact HB.out | apply below_alloc | apply pw_below_drewN | apply below_drew1 | refine below_set ?_ GE184.out) | exact HB.out))))
                have n3_ := Aside0.mk (bb_ BK184.out hb)
                have n4_ := Aside0.mk (bs_ hb)
                clear HO0 HO191 BK184 HB
                have HO0 := n0_
                have HO191 := n1_
                have HO194 := n2_
                have BK184 := n3_
                have HB := n4_
                clear n0_ n1_ n2_ n3_ n4_
                clear hb ho20
                refine hK.out _ _ ⟨(blk_cell BK184.out 0).trans rfl, (blk_cell BK184.out 1).trans rfl, (blk_cell BK184.out 2).trans rfl, (blk_cell BK184.out 3).trans rfl, (blk_cell BK184.out 4).trans rfl, (blk_cell BK184.out 5).trans rfl, (blk_cell BK184.out 6).trans rfl, (blk_cell BK184.out 7).trans rfl, (blk_cell BK184.out 8).trans rfl⟩ (fun hHeld => ?_)
                clear hK K
                refine norm_ (a' := ?_) ?_ ?_
                rotate_left
                · show Act.put _ (some 21) _ = _
                  simp only [Act.put, List.setIfInBounds_toArray, List.set_cons_zero, List.set_cons_succ, i64_w, i32_w]
                  rfl
                exact norm_ (by simp only [putAll, Act.put, List.setIfInBounds_toArray, List.set_cons_zero, List.set_cons_succ]) (hCont (v187, v190, v193) _ ⟨hHeld, (by (with_reducible repeat (first | apply Kd.V_alloc | apply Kd.V_drewN | apply Kd.V_drew)); exact Kd.V_mono HO0.out (fun _ hk => ⟨hk.1.1.1, ⟨hk.1.2, ⟨hk.2, hk.1.1.2⟩⟩⟩)), (by (with_reducible repeat (first | apply Kd.R_alloc | apply Kd.R_drewN | apply Kd.R_drew)); exact Kd.R_mono HO191.out (fun _ hk => ⟨hk.1.1, ⟨hk.2, hk.1.2⟩⟩)), (by (with_reducible repeat (first | apply Kd.R_alloc | apply Kd.R_drewN | apply Kd.R_drew)); exact Kd.R_mono HO194.out (fun _ hk => ⟨hk.1.1.1, ⟨hk.1.2, hk.2⟩⟩)), (by (with_reducible repeat (first | refine blk_drewN ?_ _ | refine blk_drew ?_ | refine blk_alloc ?_ _)); exact BK184.out), (by repeat (first | (with_reducible first | exact HB.out | apply below_alloc | apply pw_below_drewN | apply below_drew1 | refine below_set ?_ GE184.out) | exact HB.out))⟩)
              · skip
                refine Kd.R_lit_step k25 _ 25 ?hg (N := 21) ?hd (xs := ([(⟨a2_0, a2_1, a2_2, a2_3, a2_4, a2_5, a2_6, a2_7, a2_8⟩ : S25)] : List (S25))) (inner := [.int .i64 a2_0, .int .i64 a2_1, .int .u32 a2_2, .int .u32 a2_3, .int .u32 a2_4, .int .u32 a2_5, .int .u32 a2_6, .int .u32 a2_7, .int .i64 a2_8]) (ok := fun _ => True) (okp := fun _ => True) ?hr ?hp (fun _ hk => hk) trivial (Below.refl _ _) (Nat.le_refl _) (by simp) ?_; (case hd => rfl); (case hg => rfl); (case hr => first | (go_simp; done) | (go_simp; rfl)); (case hp => exact (Reps.c9 (show Kd.M k25 _ _ _ (⟨a2_0, a2_1, a2_2, a2_3, a2_4, a2_5, a2_6, a2_7, a2_8⟩ : S25) [.int .i64 a2_0, .int .i64 a2_1, .int .u32 a2_2, .int .u32 a2_3, .int .u32 a2_4, .int .u32 a2_5, .int .u32 a2_6, .int .u32 a2_7, .int .i64 a2_8] from (k25_mkM _ _ _ (⟨a2_0, a2_1, a2_2, a2_3, a2_4, a2_5, a2_6, a2_7, a2_8⟩ : S25) )) (Reps.none _ _)))
                intro v193 w18 ho19 hb hg_ hnew_
                clear hg_ hnew_
                (first | rw [← Ny192.out] at ho19 | (simp only [Int.reduceToNat] at ho19; rw [← Ny192.out] at ho19))
                have n0_ := Aside0.mk (vf_ HO0.out (Kd.R_base ho19) hb)
                have n1_ := Aside0.mk (rf_ HO188.out (Kd.R_base ho19) hb)
                have n2_ := Aside0.mk (Kd.R_lower (Kd.R_newB (Kd.R_new' (Kd.R_newM (M := fun k_ => (w.heap.size ≤ k_)) ho19 (below_size (by repeat (first | (with_reducible first | exact HB.out | apply below_alloc | apply pw_below_drewN | apply below_drew1 | refine below_set ?_ GE184.out) | exact HB.out))) (fun k_ h_ => h_)) (Kd.R_lt (by (with_reducible repeat (first | apply Kd.R_alloc | apply Kd.R_drewN | apply Kd.R_drew)); exact HO188.out))) (g := gb184) (o := .cells #[.int .i64 a2_0, .int .i64 a2_1, .int .u32 a2_2, .int .u32 a2_3, .int .u32 a2_4, .int .u32 a2_5, .int .u32 a2_6, .int .u32 a2_7, .int .i64 a2_8] 25 (0, 0)) (by (with_reducible repeat (first | refine blk_drewN ?_ _ | refine blk_drew ?_ | refine blk_alloc ?_ _)); exact BK184.out)) (below_size (by repeat (first | (with_reducible first | exact HB.out | apply below_alloc | apply pw_below_drewN | apply below_drew1 | refine below_set ?_ GE184.out) | exact HB.out))))
                have n3_ := Aside0.mk (bb_ BK184.out hb)
                have n4_ := Aside0.mk (bs_ hb)
                clear HO0 HO188 BK184 HB
                have HO0 := n0_
                have HO188 := n1_
                have HO194 := n2_
                have BK184 := n3_
                have HB := n4_
                clear n0_ n1_ n2_ n3_ n4_
                clear hb ho19
                refine hK.out _ _ ⟨(blk_cell BK184.out 0).trans rfl, (blk_cell BK184.out 1).trans rfl, (blk_cell BK184.out 2).trans rfl, (blk_cell BK184.out 3).trans rfl, (blk_cell BK184.out 4).trans rfl, (blk_cell BK184.out 5).trans rfl, (blk_cell BK184.out 6).trans rfl, (blk_cell BK184.out 7).trans rfl, (blk_cell BK184.out 8).trans rfl⟩ (fun hHeld => ?_)
                clear hK K
                refine norm_ (a' := ?_) ?_ ?_
                rotate_left
                · show Act.put _ (some 21) _ = _
                  simp only [Act.put, List.setIfInBounds_toArray, List.set_cons_zero, List.set_cons_succ, i64_w, i32_w]
                  rfl
                refine one_ (i := 2) (N := some 19) #[true, true, true, true, true, false, false, false] rfl rfl (one_of HT_.out (by kernel_rfl)) (by decide) (fun K hK => ?_)
                refine Kd.R_append_rows_step k25 (w0 := w) w.heap.size (by rfl) (.tmp 17) (.tmp 18) 22 25 (.agg #[(.int .i64 0), (.int .i64 0), (.int .u32 0), (.int .u32 0), (.int .u32 0), (.int .u32 0), (.int .u32 0), (.int .u32 0), (.int .i64 0)]) 48 rfl Try.underlying22 info25 rfl (by decide) (by omega) v187 y186 l0 _ _ _ (fun k_ => (w.heap.size ≤ k_) ∧ some k_ ≠ (v193 : Value).ownBlock ∧ k_ ≠ gb184) (fun _ => False) rfl rfl ?aO ?aR (fun _ _ h => h) (fun _ h => h.elim) ?aF ?aB ?aS ?aL ?_
                (case aR => repeat (first | exact (Kd.V_reads' HO0.out).2.2 | (with_reducible refine Kd.C_alloc ?_ _) | (with_reducible refine Kd.C_drewN ?_ _) | (with_reducible refine Kd.C_drew ?_)))
                (case aB => exact (by repeat (first | (with_reducible first | exact HB.out | apply below_alloc | apply pw_below_drewN | apply below_drew1 | refine below_set ?_ GE184.out) | exact HB.out)))
                (case aF => exact (fun k_ hk => ⟨(Nat.le_trans (below_size (by repeat (first | (with_reducible first | exact HB.out | apply below_alloc | apply pw_below_drewN | apply below_drew1 | refine below_set ?_ GE184.out) | exact HB.out))) hk), Kd.fresh' (Kd.R_lt (by (with_reducible repeat (first | apply Kd.R_alloc | apply Kd.R_drewN | apply Kd.R_drew)); exact HO194.out)) k_ hk, fb_ BK184.out k_ hk⟩))
                (case aO => exact (by (with_reducible repeat (first | apply Kd.R_alloc | apply Kd.R_drewN | apply Kd.R_drew)); exact Kd.R_mono HO188.out (fun _ hk => ⟨hk.1.1.1, ⟨hk.2, hk.1.2⟩⟩)))
                (case aS => exact (below_size (by repeat (first | (with_reducible first | exact HB.out | apply below_alloc | apply pw_below_drewN | apply below_drew1 | refine below_set ?_ GE184.out) | exact HB.out))))
                (case aL => have := LMc10.out; omega)
                intro v190 w20 ho hb hg hat
                rw [← Ny189.out] at ho
                have n0_ := Aside0.mk (Kd.V_afterv (ok := (fun k_ => (P0_ k_ ∨ w.heap.size ≤ k_) ∧ some k_ ≠ (v193 : Value).ownBlock ∧ k_ ≠ gb184)) (by (with_reducible repeat (first | apply Kd.V_alloc | apply Kd.V_drewN | apply Kd.V_drew)); exact Kd.V_mono HO0.out (fun _ hk => ⟨⟨hk.1.1.1, ⟨hk.2, hk.1.1.2⟩⟩, hk.1.2⟩)) hg hat)
                have n1_ := Aside0.mk (blk_grown (g := gb184) (o := .cells #[.int .i64 a2_0, .int .i64 a2_1, .int .u32 a2_2, .int .u32 a2_3, .int .u32 a2_4, .int .u32 a2_5, .int .u32 a2_6, .int .u32 a2_7, .int .i64 a2_8] 25 (0, 0)) (by (with_reducible repeat (first | refine blk_drewN ?_ _ | refine blk_drew ?_ | refine blk_alloc ?_ _)); exact BK184.out) hg (Kd.R_away HO188.out (fun _ hk => hk.1.2)))
                have n2_ := Aside0.mk (Kd.R_after (ok := (fun k_ => (w.heap.size ≤ k_) ∧ k_ ≠ gb184)) (by (with_reducible repeat (first | apply Kd.R_alloc | apply Kd.R_drewN | apply Kd.R_drew)); exact Kd.R_mono HO194.out (fun _ hk => ⟨⟨hk.1.1.1, hk.2⟩, hk.1.2⟩)) hg hat)
                have n3_ := Aside0.mk (hb)
                have n4_ := Aside0.mk (ho)
                clear HO0 BK184 HO194 HB HO188
                have HO0 := n0_
                have BK184 := n1_
                have HO194 := n2_
                have HB := n3_
                have HO191 := n4_
                clear n0_ n1_ n2_ n3_ n4_
                clear ho hb hg hat
                refine hK.out _ _ ⟨(blk_cell BK184.out 0).trans rfl, (blk_cell BK184.out 1).trans rfl, (blk_cell BK184.out 2).trans rfl, (blk_cell BK184.out 3).trans rfl, (blk_cell BK184.out 4).trans rfl, (blk_cell BK184.out 5).trans rfl, (blk_cell BK184.out 6).trans rfl, (blk_cell BK184.out 7).trans rfl, (blk_cell BK184.out 8).trans rfl⟩ (fun hHeld => ?_)
                clear hK K
                refine norm_ (a' := ?_) ?_ ?_
                rotate_left
                · show Act.put _ (some 19) _ = _
                  simp only [Act.put, List.setIfInBounds_toArray, List.set_cons_zero, List.set_cons_succ, i64_w, i32_w]
                  rfl
                exact norm_ (by simp only [putAll, Act.put, List.setIfInBounds_toArray, List.set_cons_zero, List.set_cons_succ]) (hCont (v187, v190, v193) _ ⟨hHeld, (by (with_reducible repeat (first | apply Kd.V_alloc | apply Kd.V_drewN | apply Kd.V_drew)); exact Kd.V_mono HO0.out (fun _ hk => ⟨hk.1.1, ⟨hk.2, ⟨hk.1.2.1, hk.1.2.2⟩⟩⟩)), (by (with_reducible repeat (first | apply Kd.R_alloc | apply Kd.R_drewN | apply Kd.R_drew)); exact HO191.out), (by (with_reducible repeat (first | apply Kd.R_alloc | apply Kd.R_drewN | apply Kd.R_drew)); exact Kd.R_mono HO194.out (fun _ hk => ⟨hk.1.1, ⟨hk.2, hk.1.2⟩⟩)), (by (with_reducible repeat (first | refine blk_drewN ?_ _ | refine blk_drew ?_ | refine blk_alloc ?_ _)); exact BK184.out), (by repeat (first | (with_reducible first | exact HB.out | apply below_alloc | apply pw_below_drewN | apply below_drew1 | refine below_set ?_ GE184.out) | exact HB.out))⟩)
            · skip
              refine Kd.R_lit_step k25 _ 25 ?hg (N := 21) ?hd (xs := ([(⟨a2_0, a2_1, a2_2, a2_3, a2_4, a2_5, a2_6, a2_7, a2_8⟩ : S25)] : List (S25))) (inner := [.int .i64 a2_0, .int .i64 a2_1, .int .u32 a2_2, .int .u32 a2_3, .int .u32 a2_4, .int .u32 a2_5, .int .u32 a2_6, .int .u32 a2_7, .int .i64 a2_8]) (ok := fun _ => True) (okp := fun _ => True) ?hr ?hp (fun _ hk => hk) trivial (Below.refl _ _) (Nat.le_refl _) (by simp) ?_; (case hd => rfl); (case hg => rfl); (case hr => first | (go_simp; done) | (go_simp; rfl)); (case hp => exact (Reps.c9 (show Kd.M k25 _ _ _ (⟨a2_0, a2_1, a2_2, a2_3, a2_4, a2_5, a2_6, a2_7, a2_8⟩ : S25) [.int .i64 a2_0, .int .i64 a2_1, .int .u32 a2_2, .int .u32 a2_3, .int .u32 a2_4, .int .u32 a2_5, .int .u32 a2_6, .int .u32 a2_7, .int .i64 a2_8] from (k25_mkM _ _ _ (⟨a2_0, a2_1, a2_2, a2_3, a2_4, a2_5, a2_6, a2_7, a2_8⟩ : S25) )) (Reps.none _ _)))
              intro v193 w16 ho17 hb hg_ hnew_
              clear hg_ hnew_
              (first | rw [← Ny192.out] at ho17 | (simp only [Int.reduceToNat] at ho17; rw [← Ny192.out] at ho17))
              have n0_ := Aside0.mk (vf_ HO0.out (Kd.R_base ho17) hb)
              have n1_ := Aside0.mk (Kd.R_lower (Kd.R_newB (Kd.R_newM (M := fun k_ => (w.heap.size ≤ k_)) ho17 (below_size (by repeat (first | (with_reducible first | exact HB.out | apply below_alloc | apply pw_below_drewN | apply below_drew1 | refine below_set ?_ GE184.out) | exact HB.out))) (fun k_ h_ => h_)) (g := gb184) (o := .cells #[.int .i64 a2_0, .int .i64 a2_1, .int .u32 a2_2, .int .u32 a2_3, .int .u32 a2_4, .int .u32 a2_5, .int .u32 a2_6, .int .u32 a2_7, .int .i64 a2_8] 25 (0, 0)) (by (with_reducible repeat (first | refine blk_drewN ?_ _ | refine blk_drew ?_ | refine blk_alloc ?_ _)); exact BK184.out)) (below_size (by repeat (first | (with_reducible first | exact HB.out | apply below_alloc | apply pw_below_drewN | apply below_drew1 | refine below_set ?_ GE184.out) | exact HB.out))))
              have n2_ := Aside0.mk (bb_ BK184.out hb)
              have n3_ := Aside0.mk (bs_ hb)
              clear HO0 BK184 HB
              have HO0 := n0_
              have HO194 := n1_
              have BK184 := n2_
              have HB := n3_
              clear n0_ n1_ n2_ n3_
              clear hb ho17
              refine hK.out _ _ ⟨(blk_cell BK184.out 0).trans rfl, (blk_cell BK184.out 1).trans rfl, (blk_cell BK184.out 2).trans rfl, (blk_cell BK184.out 3).trans rfl, (blk_cell BK184.out 4).trans rfl, (blk_cell BK184.out 5).trans rfl, (blk_cell BK184.out 6).trans rfl, (blk_cell BK184.out 7).trans rfl, (blk_cell BK184.out 8).trans rfl⟩ (fun hHeld => ?_)
              clear hK K
              refine norm_ (a' := ?_) ?_ ?_
              rotate_left
              · show Act.put _ (some 21) _ = _
                simp only [Act.put, List.setIfInBounds_toArray, List.set_cons_zero, List.set_cons_succ, i64_w, i32_w]
                rfl
              refine one_ (i := 0) (N := some 17) #[true, true, false, true, true, false, false, false] rfl rfl (one_of HT_.out (by kernel_rfl)) (by decide) (fun K hK => ?_)
              refine Kd.R_lit_step k25 _ 25 ?hg (N := 17) ?hd (xs := ([] : List (S25))) (inner := []) (ok := fun _ => True) (okp := fun _ => True) ?hr ?hp (fun _ hk => hk) trivial (Below.refl _ _) (Nat.le_refl _) (by simp) ?_; (case hd => rfl); (case hg => rfl); (case hr => first | (go_simp; done) | (go_simp; rfl)); (case hp => exact (Reps.none _ _))
              intro v187 w18 ho19 hb hg_ hnew_
              clear hg_ hnew_
              (first | rw [← Ny186.out] at ho19 | (simp only [Int.reduceToNat] at ho19; rw [← Ny186.out] at ho19))
              have n0_ := Aside0.mk (vf_ HO0.out (Kd.R_base ho19) hb)
              have n1_ := Aside0.mk (rf_ HO194.out (Kd.R_base ho19) hb)
              have n2_ := Aside0.mk (Kd.R_lower (Kd.R_newB (Kd.R_new' (Kd.R_newM (M := fun k_ => (w.heap.size ≤ k_)) ho19 (below_size (by repeat (first | (with_reducible first | exact HB.out | apply below_alloc | apply pw_below_drewN | apply below_drew1 | refine below_set ?_ GE184.out) | exact HB.out))) (fun k_ h_ => h_)) (Kd.R_lt (by (with_reducible repeat (first | apply Kd.R_alloc | apply Kd.R_drewN | apply Kd.R_drew)); exact HO194.out))) (g := gb184) (o := .cells #[.int .i64 a2_0, .int .i64 a2_1, .int .u32 a2_2, .int .u32 a2_3, .int .u32 a2_4, .int .u32 a2_5, .int .u32 a2_6, .int .u32 a2_7, .int .i64 a2_8] 25 (0, 0)) (by (with_reducible repeat (first | refine blk_drewN ?_ _ | refine blk_drew ?_ | refine blk_alloc ?_ _)); exact BK184.out)) (below_size (by repeat (first | (with_reducible first | exact HB.out | apply below_alloc | apply pw_below_drewN | apply below_drew1 | refine below_set ?_ GE184.out) | exact HB.out))))
              have n3_ := Aside0.mk (bb_ BK184.out hb)
              have n4_ := Aside0.mk (bs_ hb)
              clear HO0 HO194 BK184 HB
              have HO0 := n0_
              have HO194 := n1_
              have HO188 := n2_
              have BK184 := n3_
              have HB := n4_
              clear n0_ n1_ n2_ n3_ n4_
              clear hb ho19
              refine hK.out _ _ ⟨(blk_cell BK184.out 0).trans rfl, (blk_cell BK184.out 1).trans rfl, (blk_cell BK184.out 2).trans rfl, (blk_cell BK184.out 3).trans rfl, (blk_cell BK184.out 4).trans rfl, (blk_cell BK184.out 5).trans rfl, (blk_cell BK184.out 6).trans rfl, (blk_cell BK184.out 7).trans rfl, (blk_cell BK184.out 8).trans rfl⟩ (fun hHeld => ?_)
              clear hK K
              refine norm_ (a' := ?_) ?_ ?_
              rotate_left
              · show Act.put _ (some 17) _ = _
                simp only [Act.put, List.setIfInBounds_toArray, List.set_cons_zero, List.set_cons_succ, i64_w, i32_w]
                rfl
              refine one_ (i := 2) (N := some 19) #[true, true, true, true, true, false, false, false] rfl rfl (one_of HT_.out (by kernel_rfl)) (by decide) (fun K hK => ?_)
              refine Kd.R_append_rows_step k25 (w0 := w) w.heap.size (by rfl) (.tmp 17) (.tmp 18) 22 25 (.agg #[(.int .i64 0), (.int .i64 0), (.int .u32 0), (.int .u32 0), (.int .u32 0), (.int .u32 0), (.int .u32 0), (.int .u32 0), (.int .i64 0)]) 48 rfl Try.underlying22 info25 rfl (by decide) (by omega) v187 y186 l0 _ _ _ (fun k_ => (w.heap.size ≤ k_) ∧ some k_ ≠ (v193 : Value).ownBlock ∧ k_ ≠ gb184) (fun _ => False) rfl rfl ?aO ?aR (fun _ _ h => h) (fun _ h => h.elim) ?aF ?aB ?aS ?aL ?_
              (case aR => repeat (first | exact (Kd.V_reads' HO0.out).2.2 | (with_reducible refine Kd.C_alloc ?_ _) | (with_reducible refine Kd.C_drewN ?_ _) | (with_reducible refine Kd.C_drew ?_)))
              (case aB => exact (by repeat (first | (with_reducible first | exact HB.out | apply below_alloc | apply pw_below_drewN | apply below_drew1 | refine below_set ?_ GE184.out) | exact HB.out)))
              (case aF => exact (fun k_ hk => ⟨(Nat.le_trans (below_size (by repeat (first | (with_reducible first | exact HB.out | apply below_alloc | apply pw_below_drewN | apply below_drew1 | refine below_set ?_ GE184.out) | exact HB.out))) hk), Kd.fresh' (Kd.R_lt (by (with_reducible repeat (first | apply Kd.R_alloc | apply Kd.R_drewN | apply Kd.R_drew)); exact HO194.out)) k_ hk, fb_ BK184.out k_ hk⟩))
              (case aO => exact (by (with_reducible repeat (first | apply Kd.R_alloc | apply Kd.R_drewN | apply Kd.R_drew)); exact Kd.R_mono HO188.out (fun _ hk => ⟨hk.1.1.1, ⟨hk.1.2, hk.2⟩⟩)))
              (case aS => exact (below_size (by repeat (first | (with_reducible first | exact HB.out | apply below_alloc | apply pw_below_drewN | apply below_drew1 | refine below_set ?_ GE184.out) | exact HB.out))))
              (case aL => have := LMc10.out; omega)
              intro v190 w20 ho hb hg hat
              rw [← Ny189.out] at ho
              have n0_ := Aside0.mk (Kd.V_afterv (ok := (fun k_ => (P0_ k_ ∨ w.heap.size ≤ k_) ∧ some k_ ≠ (v193 : Value).ownBlock ∧ k_ ≠ gb184)) (by (with_reducible repeat (first | apply Kd.V_alloc | apply Kd.V_drewN | apply Kd.V_drew)); exact Kd.V_mono HO0.out (fun _ hk => ⟨⟨hk.1.1.1, ⟨hk.1.2, hk.1.1.2⟩⟩, hk.2⟩)) hg hat)
              have n1_ := Aside0.mk (blk_grown (g := gb184) (o := .cells #[.int .i64 a2_0, .int .i64 a2_1, .int .u32 a2_2, .int .u32 a2_3, .int .u32 a2_4, .int .u32 a2_5, .int .u32 a2_6, .int .u32 a2_7, .int .i64 a2_8] 25 (0, 0)) (by (with_reducible repeat (first | refine blk_drewN ?_ _ | refine blk_drew ?_ | refine blk_alloc ?_ _)); exact BK184.out) hg (Kd.R_away HO188.out (fun _ hk => hk.2)))
              have n2_ := Aside0.mk (Kd.R_after (ok := (fun k_ => (w.heap.size ≤ k_) ∧ k_ ≠ gb184)) (by (with_reducible repeat (first | apply Kd.R_alloc | apply Kd.R_drewN | apply Kd.R_drew)); exact Kd.R_mono HO194.out (fun _ hk => ⟨⟨hk.1.1.1, hk.1.2⟩, hk.2⟩)) hg hat)
              have n3_ := Aside0.mk (hb)
              have n4_ := Aside0.mk (ho)
              clear HO0 BK184 HO194 HB HO188
              have HO0 := n0_
              have BK184 := n1_
              have HO194 := n2_
              have HB := n3_
              have HO191 := n4_
              clear n0_ n1_ n2_ n3_ n4_
              clear ho hb hg hat
              refine hK.out _ _ ⟨(blk_cell BK184.out 0).trans rfl, (blk_cell BK184.out 1).trans rfl, (blk_cell BK184.out 2).trans rfl, (blk_cell BK184.out 3).trans rfl, (blk_cell BK184.out 4).trans rfl, (blk_cell BK184.out 5).trans rfl, (blk_cell BK184.out 6).trans rfl, (blk_cell BK184.out 7).trans rfl, (blk_cell BK184.out 8).trans rfl⟩ (fun hHeld => ?_)
              clear hK K
              refine norm_ (a' := ?_) ?_ ?_
              rotate_left
              · show Act.put _ (some 19) _ = _
                simp only [Act.put, List.setIfInBounds_toArray, List.set_cons_zero, List.set_cons_succ, i64_w, i32_w]
                rfl
              exact norm_ (by simp only [putAll, Act.put, List.setIfInBounds_toArray, List.set_cons_zero, List.set_cons_succ]) (hCont (v187, v190, v193) _ ⟨hHeld, (by (with_reducible repeat (first | apply Kd.V_alloc | apply Kd.V_drewN | apply Kd.V_drew)); exact Kd.V_mono HO0.out (fun _ hk => ⟨hk.1.1, ⟨hk.2, ⟨hk.1.2.1, hk.1.2.2⟩⟩⟩)), (by (with_reducible repeat (first | apply Kd.R_alloc | apply Kd.R_drewN | apply Kd.R_drew)); exact HO191.out), (by (with_reducible repeat (first | apply Kd.R_alloc | apply Kd.R_drewN | apply Kd.R_drew)); exact Kd.R_mono HO194.out (fun _ hk => ⟨hk.1.1, ⟨hk.2, hk.1.2⟩⟩)), (by (with_reducible repeat (first | refine blk_drewN ?_ _ | refine blk_drew ?_ | refine blk_alloc ?_ _)); exact BK184.out), (by repeat (first | (with_reducible first | exact HB.out | apply below_alloc | apply pw_below_drewN | apply below_drew1 | refine below_set ?_ GE184.out) | exact HB.out))⟩)
          rintro ⟨v187, v190, v193⟩ w21 ⟨hS_, h0_, h1_, h2_, h3_, h4_⟩
          have n1_ : Aside0 (Kd.R k25 25 w21 w.heap.size (fun k_ => (w.heap.size ≤ k_) ∧ some k_ ≠ (v193 : Value).ownBlock ∧ k_ ≠ gb184) v190 y189) := ⟨h1_⟩
          have n2_ : Aside0 (Kd.R k25 25 w21 w.heap.size (fun k_ => (w.heap.size ≤ k_) ∧ some k_ ≠ (v190 : Value).ownBlock ∧ k_ ≠ gb184) v193 y192) := ⟨h2_⟩
          have n3_ : Aside0 (w21.heap[gb184]? = some (.cells #[.int .i64 a2_0, .int .i64 a2_1, .int .u32 a2_2, .int .u32 a2_3, .int .u32 a2_4, .int .u32 a2_5, .int .u32 a2_6, .int .u32 a2_7, .int .i64 a2_8] 25 (0, 0))) := ⟨h3_⟩
          have n4_ : Aside0 (Below w.heap.size w w21) := ⟨h4_⟩
          clear HO0 BK184 HB h0_ h1_ h2_ h3_ h4_
          have HO191 := n1_
          have HO194 := n2_
          have BK184 := n3_
          have HB := n4_
          clear n1_ n2_ n3_ n4_
          have hHeld : w21.cell? ⟨gb184, 0, none⟩ = some (.int .i64 a2_0) ∧ w21.cell? ⟨gb184, 1, none⟩ = some (.int .i64 a2_1) ∧ w21.cell? ⟨gb184, 2, none⟩ = some (.int .u32 a2_2) ∧ w21.cell? ⟨gb184, 3, none⟩ = some (.int .u32 a2_3) ∧ w21.cell? ⟨gb184, 4, none⟩ = some (.int .u32 a2_4) ∧ w21.cell? ⟨gb184, 5, none⟩ = some (.int .u32 a2_5) ∧ w21.cell? ⟨gb184, 6, none⟩ = some (.int .u32 a2_6) ∧ w21.cell? ⟨gb184, 7, none⟩ = some (.int .u32 a2_7) ∧ w21.cell? ⟨gb184, 8, none⟩ = some (.int .i64 a2_8) := hS_
          obtain ⟨Ao23, co23, eo23⟩ := Kd.R_slice HO194.out
          (first | subst eo23 | (injection eo23 with f1_ f2_ f3_; have f4_ := f1_.symm; have f5_ := f3_.symm; clear f1_ f2_ f3_; subst f4_; subst f5_))
          refine norm_ (a' := ?_) ?_ ?_
          rotate_left
          · simp only [putAll, Act.put, List.setIfInBounds_toArray, List.set_cons_zero, List.set_cons_succ]
            rfl
          refine one_ (i := 5) (N := some 22) #[true, true, true, true, true, true, false, false] rfl rfl (one_of HT_.out (by kernel_rfl)) (by decide) (fun K hK => ?_)
          refine Kd.R_append_rows_step k25 (w0 := w) w.heap.size (by rfl) (.tmp 19) (.tmp 21) 22 25 (.agg #[(.int .i64 0), (.int .i64 0), (.int .u32 0), (.int .u32 0), (.int .u32 0), (.int .u32 0), (.int .u32 0), (.int .u32 0), (.int .i64 0)]) 48 rfl Try.underlying22 info25 rfl (by decide) (by omega) v190 y189 y192 _ _ _ (fun k_ => (w.heap.size ≤ k_) ∧ some k_ ≠ (.slice Ao23 y192.length co23 : Value).ownBlock ∧ k_ ≠ gb184) (fun _ => False) rfl rfl ?aO ?aR (fun _ _ h => h) (fun _ h => h.elim) ?aF ?aB ?aS ?aL ?_
          (case aR => repeat (first | exact (Kd.R_reads' HO194.out).2.2 | (with_reducible refine Kd.C_alloc ?_ _) | (with_reducible refine Kd.C_drewN ?_ _) | (with_reducible refine Kd.C_drew ?_)))
          (case aB => exact (by repeat (first | (with_reducible first | exact HB.out | apply below_alloc | apply pw_below_drewN | apply below_drew1 | refine below_set ?_ GE184.out) | exact HB.out)))
          (case aF => exact (fun k_ hk => ⟨(Nat.le_trans (below_size (by repeat (first | (with_reducible first | exact HB.out | apply below_alloc | apply pw_below_drewN | apply below_drew1 | refine below_set ?_ GE184.out) | exact HB.out))) hk), Kd.fresh' (Kd.R_lt (by (with_reducible repeat (first | apply Kd.R_alloc | apply Kd.R_drewN | apply Kd.R_drew)); exact HO194.out)) k_ hk, fb_ BK184.out k_ hk⟩))
          (case aO => exact (by (with_reducible repeat (first | apply Kd.R_alloc | apply Kd.R_drewN | apply Kd.R_drew)); exact HO191.out))
          (case aS => exact (below_size (by repeat (first | (with_reducible first | exact HB.out | apply below_alloc | apply pw_below_drewN | apply below_drew1 | refine below_set ?_ GE184.out) | exact HB.out))))
          (case aL => have := LMc11.out; omega)
          intro v196 w22 ho hb hg hat
          rw [← Ny195.out] at ho
          have n1_ := Aside0.mk (blk_grown (g := gb184) (o := .cells #[.int .i64 a2_0, .int .i64 a2_1, .int .u32 a2_2, .int .u32 a2_3, .int .u32 a2_4, .int .u32 a2_5, .int .u32 a2_6, .int .u32 a2_7, .int .i64 a2_8] 25 (0, 0)) (by (with_reducible repeat (first | refine blk_drewN ?_ _ | refine blk_drew ?_ | refine blk_alloc ?_ _)); exact BK184.out) hg (Kd.R_away HO191.out (fun _ hk => hk.2.2)))
          have n3_ := Aside0.mk (hb)
          have n4_ := Aside0.mk (ho)
          clear BK184 HO194 HB HO191
          have BK184 := n1_
          have HB := n3_
          have HO197 := n4_
          clear n1_ n3_ n4_
          clear ho hb hg hat
          refine hK.out _ _ ⟨(blk_cell BK184.out 0).trans rfl, (blk_cell BK184.out 1).trans rfl, (blk_cell BK184.out 2).trans rfl, (blk_cell BK184.out 3).trans rfl, (blk_cell BK184.out 4).trans rfl, (blk_cell BK184.out 5).trans rfl, (blk_cell BK184.out 6).trans rfl, (blk_cell BK184.out 7).trans rfl, (blk_cell BK184.out 8).trans rfl⟩ (fun hHeld => ?_)
          clear hK K
          refine norm_ (a' := ?_) ?_ ?_
          rotate_left
          · show Act.put _ (some 22) _ = _
            simp only [Act.put, List.setIfInBounds_toArray, List.set_cons_zero, List.set_cons_succ, i64_w, i32_w]
            rfl
          refine pure_ (i := 6) (N := some 6) (v := ?_) (a' := ?_) #[true, true, true, true, true, true, true, false] rfl rfl (any_of HT_.out (by kernel_rfl)) (fun _ _ _ h => h) (Or.inl ⟨by rfl, ?_⟩) ?_ ?_
          rotate_left
          · intro w'
            go_simp
            with_reducible rfl
          rotate_left
          · simp only [Act.put, List.setIfInBounds_toArray, List.set_cons_zero, List.set_cons_succ, i64_w, i32_w]
            rfl
          refine pure_ (i := 7) (N := some 7) (v := ?_) (a' := ?_) #[true, true, true, true, true, true, true, true] rfl rfl (any_of HT_.out (by kernel_rfl)) (fun _ _ _ h => h) (Or.inl ⟨by rfl, ?_⟩) ?_ ?_
          rotate_left
          · intro w'
            go_simp
            with_reducible rfl
          rotate_left
          · simp only [Act.put, List.setIfInBounds_toArray, List.set_cons_zero, List.set_cons_succ, i64_w, i32_w]
            rfl
          refine done_ (done_of HT_.out (by kernel_rfl)) ?_
          try go_wp2
          go_ret2
          exact ⟨_, by first | rfl | (simp [errW_none, errW_some] <;> rfl) | (simp [*, errW_none, errW_some] <;> rfl), Kd.V_mono (Kd.R_V (by (with_reducible repeat (first | apply Kd.R_alloc | apply Kd.R_drewN | apply Kd.R_drew)); exact Kd.R_mono HO197.out (fun _ hk => hk.1))) (fun k_ hk => by first | exact ⟨(.inr (hk.1)), hk.2⟩ | exact (.inr (hk))), by repeat (first | (with_reducible first | exact HB.out | apply below_alloc | apply pw_below_drewN | apply below_drew1 | refine below_set ?_ GE184.out) | exact HB.out)⟩
        · rw [if_neg c11] at H
          exact absurd H (by simp)
      · rw [if_neg c10] at H
        exact absurd H (by simp)
  · replace c5 := Bool.eq_false_iff.mpr c5
    subst c5
    have H1 : (some (l0, 1)) = some (r1, r2) := by rw [if_neg (show ¬ (false = true) by decide)] at H; exact H
    clear H
    have H := H1
    clear H1
    simp only [Option.some.injEq, Prod.mk.injEq] at H
    obtain ⟨rfl, rfl⟩ := H
    go_enter Try.func13, Try.ntmps13
    go_wp2_with (first | ((with_reducible refine gate_dst (N := 5) rfl ?_); refine box_event ?hg (N := 5) ?hd (cs := #[.int .i64 a2_0, .int .i64 a2_1, .int .u32 a2_2, .int .u32 a2_3, .int .u32 a2_4, .int .u32 a2_5, .int .u32 a2_6, .int .u32 a2_7, .int .i64 a2_8]) (t := 25) ?hr ?_; (case hd => rfl); (case hg => rfl); (case hr => first | (go_simp; done) | (go_simp; rfl)); intro gb184 hg w24 hbox hb; have n0_ := Aside0.mk (ve_ HO0.out gb184 hg hb); have n1_ := Aside0.mk (bs_ hb); have n2_ := Aside0.mk (hbox); have n4_ := Aside0.mk ((ge_ hg : w.heap.size ≤ gb184)); clear HO0 HB; have HO0 := n0_; have HB := n1_; have BK184 := n2_; have GE184 := n4_; clear n0_ n1_ n2_ n4_; clear hb hbox hg; have ⟨hcz25_0, hcz25_1, hcz25_2, hcz25_3, hcz25_4, hcz25_5, hcz25_6, hcz25_7, hcz25_8⟩ := cz9_ BK184.out; have ⟨hfz25_0, hfz25_1, hfz25_2, hfz25_3, hfz25_4, hfz25_5, hfz25_6, hfz25_7, hfz25_8⟩ := fz9_ BK184.out) | ((with_reducible refine gate_callee (f := 11) rfl ?_); refine goesL_ (some 9) rfl rfl Try.func11 (by kernel_rfl) rfl #[.agg #[.int .i64 a2_0, .int .i64 a2_1, .int .u32 a2_2, .int .u32 a2_3, .int .u32 a2_4, .int .u32 a2_5, .int .u32 a2_6, .int .u32 a2_7, .int .i64 a2_8]] rfl (by (try simp only [List.map_toArray, List.map_cons, List.map_nil]); first | done | rfl | (simp only [List.length_drop, List.length_take]; rfl)) ?_; (with_reducible refine (chamberlainref09_May.calls a2_0 a2_1 a2_2 a2_3 a2_4 a2_5 a2_6 a2_7 a2_8 false _ A4.out).mono ?_); rintro e w26 ⟨rfl, hb⟩; refine ⟨_, rfl, ?_⟩; have n0_ := Aside0.mk (vb_ HO0.out hb); have n2_ := Aside0.mk (bs_ hb); clear HO0 BK184 HB; have HO0 := n0_; have HB := n2_; clear n0_ n2_; (try clear hb); (try clear hb2); (try clear hk); (try clear hi)))
    go_ret2
    exact ⟨_, by first | rfl | (simp [errW_none, errW_some] <;> rfl) | (simp [*, errW_none, errW_some] <;> rfl), by (with_reducible repeat (first | apply Kd.V_alloc | apply Kd.V_drewN | apply Kd.V_drew)); exact Kd.V_mono HO0.out (fun _ hk => hk.1), by repeat (first | (with_reducible first | exact HB.out | apply below_alloc | apply pw_below_drewN | apply below_drew1 | refine below_set ?_ GE184.out) | exact HB.out)⟩

/-! ### chamberlainref09_Set: function 15 -/
mutual
def chamberlainref09_Set.j0 : Nat → List (S25) → Int → Bool → Int → Int → Int → Int → Int → Int → Int → Int → Int → Option ((List (S25)) × Int)
  | 0, _, _, _, _, _, _, _, _, _, _, _, _ => none
  | k + 1, x0, x1, x22, x199000, x199001, x199002, x199003, x199004, x199005, x199006, x199007, x199008 => if x22 = true then (some (x0, 1)) else (chamberlainref09_Set.l0 k x0 x1 ([] : List (S25)) 0 x199000 x199001 x199002 x199003 x199004 x199005 x199006 x199007 x199008)
def chamberlainref09_Set.l0 : Nat → List (S25) → Int → List (S25) → Int → Int → Int → Int → Int → Int → Int → Int → Int → Int → Option ((List (S25)) × Int)
  | 0, _, _, _, _, _, _, _, _, _, _, _, _, _ => none
  | k + 1, x0, x1, x8, x9, x199000, x199001, x199002, x199003, x199004, x199005, x199006, x199007, x199008 => if x9 < (x0.length : Int) then (if x9 = x1 then (if x8.length < 2932031007402 then (chamberlainref09_Set.l0 k x0 x1 (x8 ++ [(⟨x199000, x199001, x199002, x199003, x199004, x199005, x199006, x199007, x199008⟩ : S25)]) (wrap64 (x9 + 1)) x199000 x199001 x199002 x199003 x199004 x199005 x199006 x199007 x199008) else (none)) else (if 0 ≤ x9 then (if x8.length < 2932031007402 then (chamberlainref09_Set.l0 k x0 x1 (x8 ++ [(⟨(rd_T25 x0 x9).f0, (rd_T25 x0 x9).f1, (rd_T25 x0 x9).f2, (rd_T25 x0 x9).f3, (rd_T25 x0 x9).f4, (rd_T25 x0 x9).f5, (rd_T25 x0 x9).f6, (rd_T25 x0 x9).f7, (rd_T25 x0 x9).f8⟩ : S25)]) (wrap64 (x9 + 1)) x199000 x199001 x199002 x199003 x199004 x199005 x199006 x199007 x199008) else (none)) else (none))) else (some (x8, 0))
end
def chamberlainref09_Set.f (k : Nat) (l0 : List (S25)) (a1 : Int) (a2_0 : Int) (a2_1 : Int) (a2_2 : Int) (a2_3 : Int) (a2_4 : Int) (a2_5 : Int) (a2_6 : Int) (a2_7 : Int) (a2_8 : Int) : Option ((List (S25)) × Int) := if a1 < 0 then (chamberlainref09_Set.j0 k l0 a1 true a2_0 a2_1 a2_2 a2_3 a2_4 a2_5 a2_6 a2_7 a2_8) else (if a1 ≥ (l0.length : Int) then (chamberlainref09_Set.j0 k l0 a1 true a2_0 a2_1 a2_2 a2_3 a2_4 a2_5 a2_6 a2_7 a2_8) else ((chamberlainref09_May.f a2_0 a2_1 a2_2 a2_3 a2_4 a2_5 a2_6 a2_7 a2_8).bind fun t199 => (chamberlainref09_Set.j0 k l0 a1 (!t199) a2_0 a2_1 a2_2 a2_3 a2_4 a2_5 a2_6 a2_7 a2_8)))
theorem chamberlainref09_Set.mono_l : ∀ k, (∀ y0 y1 y2 y3 y4 y5 y6 y7 y8 y9 y10 y11, LeO (chamberlainref09_Set.j0 k y0 y1 y2 y3 y4 y5 y6 y7 y8 y9 y10 y11) (chamberlainref09_Set.j0 (k + 1) y0 y1 y2 y3 y4 y5 y6 y7 y8 y9 y10 y11)) ∧ (∀ y0 y1 y2 y3 y4 y5 y6 y7 y8 y9 y10 y11 y12, LeO (chamberlainref09_Set.l0 k y0 y1 y2 y3 y4 y5 y6 y7 y8 y9 y10 y11 y12) (chamberlainref09_Set.l0 (k + 1) y0 y1 y2 y3 y4 y5 y6 y7 y8 y9 y10 y11 y12))
  | 0 => ⟨fun _ _ _ _ _ _ _ _ _ _ _ _ r h => by simp [chamberlainref09_Set.j0] at h, fun _ _ _ _ _ _ _ _ _ _ _ _ _ r h => by simp [chamberlainref09_Set.l0] at h⟩
  | k + 1 => by
    obtain ⟨ih0, ih1⟩ := chamberlainref09_Set.mono_l k
    refine ⟨?_, ?_⟩
    · intro y0 y1 y2 y3 y4 y5 y6 y7 y8 y9 y10 y11
      unfold chamberlainref09_Set.j0
      repeat' first
      | (with_reducible exact ih0 _ _ _ _ _ _ _ _ _ _ _ _)
      | (with_reducible exact ih1 _ _ _ _ _ _ _ _ _ _ _ _ _)
      | (with_reducible exact LeO.refl _)
      | (with_reducible exact LeO.none _)
      | (with_reducible refine LeO.ite ?_ ?_)
      | (with_reducible refine LeO.bind ?_ (fun _ => ?_))
      | exact ih0 _ _ _ _ _ _ _ _ _ _ _ _
      | exact ih1 _ _ _ _ _ _ _ _ _ _ _ _ _
      | exact LeO.none _
      | refine LeO.ite ?_ ?_
      | refine LeO.bind ?_ (fun _ => ?_)
    · intro y0 y1 y2 y3 y4 y5 y6 y7 y8 y9 y10 y11 y12
      unfold chamberlainref09_Set.l0
      repeat' first
      | (with_reducible exact ih0 _ _ _ _ _ _ _ _ _ _ _ _)
      | (with_reducible exact ih1 _ _ _ _ _ _ _ _ _ _ _ _ _)
      | (with_reducible exact LeO.refl _)
      | (with_reducible exact LeO.none _)
      | (with_reducible refine LeO.ite ?_ ?_)
      | (with_reducible refine LeO.bind ?_ (fun _ => ?_))
      | exact ih0 _ _ _ _ _ _ _ _ _ _ _ _
      | exact ih1 _ _ _ _ _ _ _ _ _ _ _ _ _
      | exact LeO.none _
      | refine LeO.ite ?_ ?_
      | refine LeO.bind ?_ (fun _ => ?_)
theorem chamberlainref09_Set.mono : ∀ a0 a1 a2 a3 a4 a5 a6 a7 a8 a9 a10 k, LeO (chamberlainref09_Set.f k a0 a1 a2 a3 a4 a5 a6 a7 a8 a9 a10) (chamberlainref09_Set.f (k + 1) a0 a1 a2 a3 a4 a5 a6 a7 a8 a9 a10) := by
  intro a0 a1 a2 a3 a4 a5 a6 a7 a8 a9 a10 k
  obtain ⟨ih0, ih1⟩ := chamberlainref09_Set.mono_l k
  unfold chamberlainref09_Set.f
  repeat' first
      | (with_reducible exact ih0 _ _ _ _ _ _ _ _ _ _ _ _)
      | (with_reducible exact ih1 _ _ _ _ _ _ _ _ _ _ _ _ _)
      | (with_reducible exact LeO.refl _)
      | (with_reducible exact LeO.none _)
      | (with_reducible refine LeO.ite ?_ ?_)
      | (with_reducible refine LeO.bind ?_ (fun _ => ?_))
      | exact ih0 _ _ _ _ _ _ _ _ _ _ _ _
      | exact ih1 _ _ _ _ _ _ _ _ _ _ _ _ _
      | exact LeO.none _
      | refine LeO.ite ?_ ?_
      | refine LeO.bind ?_ (fun _ => ?_)
set_option maxHeartbeats 8000000 in
set_option maxRecDepth 100000 in
theorem chamberlainref09_Set.calls (k : Nat) (P0_ : Nat → Prop) (A0 : Option Addr) (c0 : Nat) (l0 : List (S25)) (a1 : Int) (a2_0 : Int) (a2_1 : Int) (a2_2 : Int) (a2_3 : Int) (a2_4 : Int) (a2_5 : Int) (a2_6 : Int) (a2_7 : Int) (a2_8 : Int) (r1 : List (S25)) (r2 : Int) (w : World) (hs0 : Kd.V k25 25 w w.heap.size (fun k_ => P0_ k_) (.slice A0 l0.length c0) l0) (h : chamberlainref09_Set.f k l0 a1 a2_0 a2_1 a2_2 a2_3 a2_4 a2_5 a2_6 a2_7 a2_8 = some (r1, r2)) :
    Calls Try.prog 15 #[.slice A0 l0.length c0, .int .i64 a1, .agg #[.int .i64 a2_0, .int .i64 a2_1, .int .u32 a2_2, .int .u32 a2_3, .int .u32 a2_4, .int .u32 a2_5, .int .u32 a2_6, .int .u32 a2_7, .int .i64 a2_8]] w fun e w' => ∃ v0_ : Value, e = .returned (.tuple #[v0_, .int .i64 r2]) ∧ Kd.V k25 25 w' w.heap.size (fun k_ => (P0_ k_ ∨ w.heap.size ≤ k_)) v0_ r1 ∧ Below w.heap.size w w' := by
  have hu25 := Try.underlying25
  have HO0 := Aside0.mk (show Kd.V k25 25 w w.heap.size (fun k_ => (P0_ k_ ∨ w.heap.size ≤ k_)) (.slice A0 l0.length c0) l0 from Kd.V_mono hs0 (fun k_ hk => .inl hk))
  have HB := Aside0.mk (Below.refl w.heap.size w)
  have H : (if a1 < 0 then (chamberlainref09_Set.j0 k l0 a1 true a2_0 a2_1 a2_2 a2_3 a2_4 a2_5 a2_6 a2_7 a2_8) else (if a1 ≥ (l0.length : Int) then (chamberlainref09_Set.j0 k l0 a1 true a2_0 a2_1 a2_2 a2_3 a2_4 a2_5 a2_6 a2_7 a2_8) else ((chamberlainref09_May.f a2_0 a2_1 a2_2 a2_3 a2_4 a2_5 a2_6 a2_7 a2_8).bind fun t199 => (chamberlainref09_Set.j0 k l0 a1 (!t199) a2_0 a2_1 a2_2 a2_3 a2_4 a2_5 a2_6 a2_7 a2_8)))) = some (r1, r2) := h
  clear h
  have HC4 := Aside0.mk H
  clear H
  go_enter Try.func15, Try.ntmps15
  go_upto_region 1 with (first | ((with_reducible refine gate_dst (N := 5) rfl ?_); (try (refine gate_guard (by rfl) ?_; dsimp only)); refine box_event ?hg (N := 5) ?hd (cs := #[.int .i64 a2_0, .int .i64 a2_1, .int .u32 a2_2, .int .u32 a2_3, .int .u32 a2_4, .int .u32 a2_5, .int .u32 a2_6, .int .u32 a2_7, .int .i64 a2_8]) (t := 25) ?hr ?_; (case hd => rfl); (case hg => rfl); (case hr => first | (go_simp; done) | (go_simp; rfl)); intro gb198 hg w5 hbox hb; have n0_ := Aside0.mk (ve_ HO0.out gb198 hg hb); have n1_ := Aside0.mk (bs_ hb); have n2_ := Aside0.mk (hbox); have n4_ := Aside0.mk ((ge_ hg : w.heap.size ≤ gb198)); clear HO0 HB; have HO0 := n0_; have HB := n1_; have BK198 := n2_; have GE198 := n4_; clear n0_ n1_ n2_ n4_; clear hb hbox hg))
  (try simp only [Act.put, List.setIfInBounds_toArray, List.set_cons_zero, List.set_cons_succ])
  go_cut [22] (fun v22 wc => ∃ (kq : Nat) (x22_3 : Bool), v22 = .bool x22_3 ∧ Aside0 (chamberlainref09_Set.j0 kq l0 a1 x22_3 a2_0 a2_1 a2_2 a2_3 a2_4 a2_5 a2_6 a2_7 a2_8 = some (r1, r2)) ∧ Aside0 (kq ≤ k) ∧ Aside0 (Kd.V k25 25 wc w.heap.size (fun k_ => (P0_ k_ ∨ w.heap.size ≤ k_) ∧ k_ ≠ gb198) (.slice A0 l0.length c0) l0) ∧ Aside0 (wc.heap[gb198]? = some (.cells #[.int .i64 a2_0, .int .i64 a2_1, .int .u32 a2_2, .int .u32 a2_3, .int .u32 a2_4, .int .u32 a2_5, .int .u32 a2_6, .int .u32 a2_7, .int .i64 a2_8] 25 (0, 0))) ∧ Aside0 (Below w.heap.size w wc))
  case first =>
    have H := HC4.out
    clear HC4
    by_cases c6 : a1 < 0
    · rw [if_pos c6] at H
      have c6b0 : decide (a1 < 0) = true := decide_eq_true c6
      clear c6
      (first | rw [c6b0] | (simp only [i64_w, i32_w]; rw [c6b0]) | skip)
      have H' := Aside0.mk H
      clear H
      go_wp2
      go_meet
      case rel => exact ⟨_, (true), (by first | rfl | (simp; done) | (simp [*]; done)), H', ⟨by first | omega | exact Nat.le_refl _⟩, ⟨by (with_reducible repeat (first | apply Kd.V_alloc | apply Kd.V_drewN | apply Kd.V_drew)); exact HO0.out⟩, ⟨by (with_reducible repeat (first | refine blk_drewN ?_ _ | refine blk_drew ?_ | refine blk_alloc ?_ _)); exact BK198.out⟩, ⟨by repeat (first | (with_reducible first | exact HB.out | apply below_alloc | apply pw_below_drewN | apply below_drew1 | refine below_set ?_ GE198.out) | exact HB.out)⟩⟩
    · rw [if_neg c6] at H
      have c6b0 : decide (a1 < 0) = false := decide_eq_false c6
      clear c6
      (first | rw [c6b0] | (simp only [i64_w, i32_w]; rw [c6b0]) | skip)
      by_cases c7 : a1 ≥ (l0.length : Int)
      · rw [if_pos c7] at H
        have c7b0 : decide ((l0.length : Int) ≤ a1) = true := decide_eq_true c7
        clear c7
        have H' := Aside0.mk H
        clear H
        go_wp2
        go_meet
        case rel => exact ⟨_, (true), (by first | rfl | (simp; done) | (simp [*]; done)), H', ⟨by first | omega | exact Nat.le_refl _⟩, ⟨by (with_reducible repeat (first | apply Kd.V_alloc | apply Kd.V_drewN | apply Kd.V_drew)); exact HO0.out⟩, ⟨by (with_reducible repeat (first | refine blk_drewN ?_ _ | refine blk_drew ?_ | refine blk_alloc ?_ _)); exact BK198.out⟩, ⟨by repeat (first | (with_reducible first | exact HB.out | apply below_alloc | apply pw_below_drewN | apply below_drew1 | refine below_set ?_ GE198.out) | exact HB.out)⟩⟩
      · rw [if_neg c7] at H
        have c7b0 : decide ((l0.length : Int) ≤ a1) = false := decide_eq_false c7
        clear c7
        replace H := Option.bind_eq_some_iff.mp H
        obtain ⟨t199, A80, H⟩ := H
        replace H : (chamberlainref09_Set.j0 k l0 a1 (!t199) a2_0 a2_1 a2_2 a2_3 a2_4 a2_5 a2_6 a2_7 a2_8) = some (r1, r2) := H
        have A8 := Aside0.mk A80
        clear A80
        have H' := Aside0.mk H
        clear H
        have ⟨hcz9_0, hcz9_1, hcz9_2, hcz9_3, hcz9_4, hcz9_5, hcz9_6, hcz9_7, hcz9_8⟩ := cz9_ BK198.out
        have ⟨hfz9_0, hfz9_1, hfz9_2, hfz9_3, hfz9_4, hfz9_5, hfz9_6, hfz9_7, hfz9_8⟩ := fz9_ BK198.out
        go_wp2_with (first | (go_at_call 11; (with_reducible refine (chamberlainref09_May.calls a2_0 a2_1 a2_2 a2_3 a2_4 a2_5 a2_6 a2_7 a2_8 t199 _ A8.out).mono ?_); rintro e w10 ⟨rfl, hb⟩; have n0_ := Aside0.mk (vb_ HO0.out hb); have n1_ := Aside0.mk (bb_ BK198.out hb); have n2_ := Aside0.mk (bs_ hb); clear HO0 BK198 HB; have HO0 := n0_; have BK198 := n1_; have HB := n2_; clear n0_ n1_ n2_; (try clear hb); (try clear hb2); (try clear hk); (try clear hi)))
        go_meet
        case rel => exact ⟨_, (!t199), (by first | rfl | (simp; done) | (simp [*]; done)), H', ⟨by first | omega | exact Nat.le_refl _⟩, ⟨by (with_reducible repeat (first | apply Kd.V_alloc | apply Kd.V_drewN | apply Kd.V_drew)); exact HO0.out⟩, ⟨by (with_reducible repeat (first | refine blk_drewN ?_ _ | refine blk_drew ?_ | refine blk_alloc ?_ _)); exact BK198.out⟩, ⟨by repeat (first | (with_reducible first | exact HB.out | apply below_alloc | apply pw_below_drewN | apply below_drew1 | refine below_set ?_ GE198.out) | exact HB.out)⟩⟩
  case rest =>
    clear HC4
    try clear c1
    try clear p2
    try clear c6
    try clear c6b0
    try clear c7
    try clear c7b0
    try clear hcz9_0
    try clear hcz9_1
    try clear hcz9_2
    try clear hcz9_3
    try clear hcz9_4
    try clear hcz9_5
    try clear hcz9_6
    try clear hcz9_7
    try clear hcz9_8
    try clear hfz9_0
    try clear hfz9_1
    try clear hfz9_2
    try clear hfz9_3
    try clear hfz9_4
    try clear hfz9_5
    try clear hfz9_6
    try clear hfz9_7
    try clear hfz9_8
    obtain ⟨kq, x22_3, rfl, HA, HJ3, HO_0, BK198, HB⟩ := hcut
    cases kq with
    | zero => exact absurd HA.out (by simp [chamberlainref09_Set.j0])
    | succ kj3 =>
      have H := HA.out
      clear HA
      simp only [chamberlainref09_Set.j0] at H
      by_cases c11 : x22_3 = true
      · subst c11
        have H1 : (some (l0, 1)) = some (r1, r2) := by rw [if_pos rfl] at H; exact H
        clear H
        have H := H1
        clear H1
        simp only [Option.some.injEq, Prod.mk.injEq] at H
        obtain ⟨rfl, rfl⟩ := H
        go_wp2
        go_ret2
        exact ⟨_, by first | rfl | (simp [errW_none, errW_some] <;> rfl) | (simp [*, errW_none, errW_some] <;> rfl), by (with_reducible repeat (first | apply Kd.V_alloc | apply Kd.V_drewN | apply Kd.V_drew)); exact Kd.V_mono HO_0.out (fun _ hk => hk.1), by repeat (first | (with_reducible first | exact HB.out | apply below_alloc | apply pw_below_drewN | apply below_drew1 | refine below_set ?_ GE198.out) | exact HB.out)⟩
      · replace c11 := Bool.eq_false_iff.mpr c11
        subst c11
        have H1 : (chamberlainref09_Set.l0 kj3 l0 a1 ([] : List (S25)) 0 a2_0 a2_1 a2_2 a2_3 a2_4 a2_5 a2_6 a2_7 a2_8) = some (r1, r2) := by rw [if_neg (show ¬ (false = true) by decide)] at H; exact H
        clear H
        have H := H1
        clear H1
        have H' := Aside0.mk H
        clear H
        go_wp2
        go_loopg [8, 9] kj3 (fun kq v8 v9 w' => ∃ (x8_2 : List (S25)) (x9_2 : Int), v9 = .int .i64 x9_2 ∧ Aside0 (chamberlainref09_Set.l0 kq l0 a1 x8_2 x9_2 a2_0 a2_1 a2_2 a2_3 a2_4 a2_5 a2_6 a2_7 a2_8 = some (r1, r2)) ∧ Aside0 (kq ≤ kj3) ∧ Aside0 (Kd.V k25 25 w' w.heap.size (fun k_ => (P0_ k_ ∨ w.heap.size ≤ k_) ∧ some k_ ≠ (v8 : Value).ownBlock ∧ k_ ≠ gb198) (.slice A0 l0.length c0) l0) ∧ Aside0 (Kd.R k25 25 w' w.heap.size (fun k_ => (w.heap.size ≤ k_) ∧ k_ ≠ gb198) v8 x8_2) ∧ Aside0 (w'.heap[gb198]? = some (.cells #[.int .i64 a2_0, .int .i64 a2_1, .int .u32 a2_2, .int .u32 a2_3, .int .u32 a2_4, .int .u32 a2_5, .int .u32 a2_6, .int .u32 a2_7, .int .i64 a2_8] 25 (0, 0))) ∧ Aside0 (Below w.heap.size w w'))
        case atStart => exact ⟨(([] : List (S25))), (0), (by first | rfl | (simp; done) | (simp [*]; done)), H', ⟨Nat.le_refl _⟩, ⟨by (with_reducible repeat (first | apply Kd.V_alloc | apply Kd.V_drewN | apply Kd.V_drew)); exact Kd.V_mono HO_0.out (fun _ hk => ⟨hk.1, ⟨(by simp [Value.ownBlock]), hk.2⟩⟩)⟩, ⟨by first | exact Kd.R_nil _ _ _ _ _ | exact Kd.N_nil _ _ _ _ _ | exact Kd.V_nil _ _ _ _ _ | exact Kd.Q_nil _ _ _ _ _ | exact Kd.S_nil _ _ _ _ _⟩, ⟨by (with_reducible repeat (first | refine blk_drewN ?_ _ | refine blk_drew ?_ | refine blk_alloc ?_ _)); exact BK198.out⟩, ⟨by repeat (first | (with_reducible first | exact HB.out | apply below_alloc | apply pw_below_drewN | apply below_drew1 | refine below_set ?_ GE198.out) | exact HB.out)⟩⟩
        case round =>
          clear H'
          try clear c1
          try clear p2
          try clear c6
          try clear c6b0
          try clear c7
          try clear c7b0
          try clear c11
          try clear hcz9_0
          try clear hcz9_1
          try clear hcz9_2
          try clear hcz9_3
          try clear hcz9_4
          try clear hcz9_5
          try clear hcz9_6
          try clear hcz9_7
          try clear hcz9_8
          try clear hfz9_0
          try clear hfz9_1
          try clear hfz9_2
          try clear hfz9_3
          try clear hfz9_4
          try clear hfz9_5
          try clear hfz9_6
          try clear hfz9_7
          try clear hfz9_8
          try clear p2
          obtain ⟨x8_2, x9_2, rfl, HA, HK2, HO_0, HO_8, BK198, HB⟩ := hrel
          cases gk with
          | zero => exact absurd HA.out (by simp [chamberlainref09_Set.l0])
          | succ k2 =>
            have H := HA.out
            clear HA
            simp only [chamberlainref09_Set.l0] at H
            by_cases c12 : x9_2 < (l0.length : Int)
            · rw [if_pos c12] at H
              have c12b0 : decide (x9_2 < (l0.length : Int)) = true := decide_eq_true c12
              clear c12
              by_cases c13 : x9_2 = a1
              · rw [if_pos c13] at H
                have c13b0 : (x9_2 == a1) = true := beq_iff_eq.mpr c13
                have c13b1 : (x9_2 != a1) = false := bne_eq_false_iff_eq.mpr c13
                clear c13
                by_cases c14 : x8_2.length < 2932031007402
                · rw [if_pos c14] at H
                  have LMc14 := Aside0.mk c14
                  clear c14
                  obtain ⟨y200, hy200⟩ : ∃ y_ : List (S25), y_ = (x8_2 ++ [(⟨a2_0, a2_1, a2_2, a2_3, a2_4, a2_5, a2_6, a2_7, a2_8⟩ : S25)]) := ⟨_, rfl⟩
                  replace H : (chamberlainref09_Set.l0 k2 l0 a1 y200 (wrap64 (x9_2 + 1)) a2_0 a2_1 a2_2 a2_3 a2_4 a2_5 a2_6 a2_7 a2_8) = some (r1, r2) := by first | (rw [hy200]; with_reducible exact H) | (have H2_ := (Option.bind_some _ _).symm.trans H; rw [hy200]; with_reducible exact H2_) | (have H2_ := (Option.bind_some _ _).symm.trans H; with_reducible exact H2_) | with_reducible exact H | (rw [hy200]; exact H) | exact H
                  have Ny200 := Aside0.mk hy200
                  clear hy200
                  have H' := Aside0.mk H
                  clear H
                  have ⟨hcz15_0, hcz15_1, hcz15_2, hcz15_3, hcz15_4, hcz15_5, hcz15_6, hcz15_7, hcz15_8⟩ := cz9_ BK198.out
                  have ⟨hfz15_0, hfz15_1, hfz15_2, hfz15_3, hfz15_4, hfz15_5, hfz15_6, hfz15_7, hfz15_8⟩ := fz9_ BK198.out
                  go_wp2_with (first | ((with_reducible refine gate_builtin (b := .append) (xs := #[.tmp 33, .tmp 35]) rfl ?_); (try (refine gate_guard (by rfl) ?_; dsimp only)); at_builtin; refine Kd.R_append k25 (w0 := w) w.heap.size rfl (.tmp 33) (.tmp 35) 22 25 (.agg #[(.int .i64 0), (.int .i64 0), (.int .u32 0), (.int .u32 0), (.int .u32 0), (.int .u32 0), (.int .u32 0), (.int .u32 0), (.int .i64 0)]) 48 rfl Try.underlying22 info25 rfl (by decide) (by omega) u8 x8_2 (⟨a2_0, a2_1, a2_2, a2_3, a2_4, a2_5, a2_6, a2_7, a2_8⟩ : S25) [.int .i64 a2_0, .int .i64 a2_1, .int .u32 a2_2, .int .u32 a2_3, .int .u32 a2_4, .int .u32 a2_5, .int .u32 a2_6, .int .u32 a2_7, .int .i64 a2_8] (fun k_ => (w.heap.size ≤ k_) ∧ k_ ≠ gb198) (fun _ => False) rfl rfl ?aP (fun _ hk => hk.elim) ?aF ?aO ?aB ?aS ?aL ?_; (case aP => exact k25_mkM _ _ _ (⟨a2_0, a2_1, a2_2, a2_3, a2_4, a2_5, a2_6, a2_7, a2_8⟩ : S25)); (case aB => exact (by repeat (first | (with_reducible first | exact HB.out | apply below_alloc | apply pw_below_drewN | apply below_drew1 | refine below_set ?_ GE198.out) | exact HB.out))); (case aF => exact (fun k_ hk => ⟨(Nat.le_trans (below_size (by repeat (first | (with_reducible first | exact HB.out | apply below_alloc | apply pw_below_drewN | apply below_drew1 | refine below_set ?_ GE198.out) | exact HB.out))) hk), fb_ BK198.out k_ hk⟩)); (case aO => exact (by (with_reducible repeat (first | apply Kd.R_alloc | apply Kd.R_drewN | apply Kd.R_drew)); exact HO_8.out)); (case aS => exact (below_size (by repeat (first | (with_reducible first | exact HB.out | apply below_alloc | apply pw_below_drewN | apply below_drew1 | refine below_set ?_ GE198.out) | exact HB.out)))); (case aL => have := LMc14.out; omega); intro v201 w16 ho hb hg hat; rw [← Ny200.out] at ho; have n0_ := Aside0.mk (Kd.V_afterv (ok := (fun k_ => (P0_ k_ ∨ w.heap.size ≤ k_) ∧ k_ ≠ gb198)) (by (with_reducible repeat (first | apply Kd.V_alloc | apply Kd.V_drewN | apply Kd.V_drew)); exact Kd.V_mono HO_0.out (fun _ hk => ⟨⟨hk.1, hk.2.2⟩, hk.2.1⟩)) hg hat); have n1_ := Aside0.mk (blk_grown (g := gb198) (o := .cells #[.int .i64 a2_0, .int .i64 a2_1, .int .u32 a2_2, .int .u32 a2_3, .int .u32 a2_4, .int .u32 a2_5, .int .u32 a2_6, .int .u32 a2_7, .int .i64 a2_8] 25 (0, 0)) (by (with_reducible repeat (first | refine blk_drewN ?_ _ | refine blk_drew ?_ | refine blk_alloc ?_ _)); exact BK198.out) hg (Kd.R_away HO_8.out (fun _ hk => hk.2))); have n2_ := Aside0.mk (hb); have n3_ := Aside0.mk (ho); clear HO_0 BK198 HB HO_8; have HO_0 := n0_; have BK198 := n1_; have HB := n2_; have HO202 := n3_; clear n0_ n1_ n2_ n3_; clear ho hb hg hat))
                  go_roundg k2
                  case measure => have := HJ3.out; have := HK2.out; omega
                  case rel => exact ⟨(y200), (wrap64 (x9_2 + 1)), (by first | rfl | (simp; done) | (simp [*]; done)), H', ⟨by have := HJ3.out; have := HK2.out; omega⟩, ⟨by (with_reducible repeat (first | apply Kd.V_alloc | apply Kd.V_drewN | apply Kd.V_drew)); exact Kd.V_mono HO_0.out (fun _ hk => ⟨hk.1.1, ⟨hk.2, hk.1.2⟩⟩)⟩, ⟨by (with_reducible repeat (first | apply Kd.R_alloc | apply Kd.R_drewN | apply Kd.R_drew)); exact HO202.out⟩, ⟨by (with_reducible repeat (first | refine blk_drewN ?_ _ | refine blk_drew ?_ | refine blk_alloc ?_ _)); exact BK198.out⟩, ⟨by repeat (first | (with_reducible first | exact HB.out | apply below_alloc | apply pw_below_drewN | apply below_drew1 | refine below_set ?_ GE198.out) | exact HB.out)⟩⟩
                · rw [if_neg c14] at H
                  exact absurd H (by simp)
              · rw [if_neg c13] at H
                have c13b0 : (x9_2 == a1) = false := beq_eq_false_iff_ne.mpr c13
                have c13b1 : (x9_2 != a1) = true := bne_iff_ne.mpr c13
                by_cases c17 : 0 ≤ x9_2
                · rw [if_pos c17] at H
                  have c17b0 : decide (0 ≤ x9_2) = true := decide_eq_true c17
                  clear c17
                  by_cases c18 : x8_2.length < 2932031007402
                  · rw [if_pos c18] at H
                    have LMc18 := Aside0.mk c18
                    clear c18
                    obtain ⟨y204, hy204⟩ : ∃ y_ : List (S25), y_ = (x8_2 ++ [(⟨(rd_T25 l0 x9_2).f0, (rd_T25 l0 x9_2).f1, (rd_T25 l0 x9_2).f2, (rd_T25 l0 x9_2).f3, (rd_T25 l0 x9_2).f4, (rd_T25 l0 x9_2).f5, (rd_T25 l0 x9_2).f6, (rd_T25 l0 x9_2).f7, (rd_T25 l0 x9_2).f8⟩ : S25)]) := ⟨_, rfl⟩
                    replace H : (chamberlainref09_Set.l0 k2 l0 a1 y204 (wrap64 (x9_2 + 1)) a2_0 a2_1 a2_2 a2_3 a2_4 a2_5 a2_6 a2_7 a2_8) = some (r1, r2) := by first | (rw [hy204]; with_reducible exact H) | (have H2_ := (Option.bind_some _ _).symm.trans H; rw [hy204]; with_reducible exact H2_) | (have H2_ := (Option.bind_some _ _).symm.trans H; with_reducible exact H2_) | with_reducible exact H | (rw [hy204]; exact H) | exact H
                    have Ny204 := Aside0.mk hy204
                    clear hy204
                    have H' := Aside0.mk H
                    clear H
                    have p203 : 0 ≤ (x9_2 : Int) := of_decide_eq_true (by first | (with_reducible assumption) | assumption)
                    have q203 : x9_2 < (l0.length : Int) := of_decide_eq_true (by first | (with_reducible assumption) | assumption)
                    obtain ⟨ad203, e203, hx203_0, hx203_1, hx203_2, hx203_3, hx203_4, hx203_5, hx203_6, hx203_7, hx203_8⟩ := at_T25 (Kd.V_reads' HO_0.out).2.2 x9_2 p203 q203
                    cases e203
                    replace p203 := eq_true p203
                    replace q203 := eq_true q203
                    go_wp2_with (first | ((with_reducible refine gate_builtin (b := .append) (xs := #[.tmp 37, .tmp 42]) rfl ?_); (try (refine gate_guard (by rfl) ?_; dsimp only)); at_builtin; refine Kd.R_append k25 (w0 := w) w.heap.size rfl (.tmp 37) (.tmp 42) 22 25 (.agg #[(.int .i64 0), (.int .i64 0), (.int .u32 0), (.int .u32 0), (.int .u32 0), (.int .u32 0), (.int .u32 0), (.int .u32 0), (.int .i64 0)]) 48 rfl Try.underlying22 info25 rfl (by decide) (by omega) u8 x8_2 (⟨(rd_T25 l0 x9_2).f0, (rd_T25 l0 x9_2).f1, (rd_T25 l0 x9_2).f2, (rd_T25 l0 x9_2).f3, (rd_T25 l0 x9_2).f4, (rd_T25 l0 x9_2).f5, (rd_T25 l0 x9_2).f6, (rd_T25 l0 x9_2).f7, (rd_T25 l0 x9_2).f8⟩ : S25) [.int .i64 ((rd_T25 l0 x9_2).f0), .int .i64 ((rd_T25 l0 x9_2).f1), .int .u32 ((rd_T25 l0 x9_2).f2), .int .u32 ((rd_T25 l0 x9_2).f3), .int .u32 ((rd_T25 l0 x9_2).f4), .int .u32 ((rd_T25 l0 x9_2).f5), .int .u32 ((rd_T25 l0 x9_2).f6), .int .u32 ((rd_T25 l0 x9_2).f7), .int .i64 ((rd_T25 l0 x9_2).f8)] (fun k_ => (w.heap.size ≤ k_) ∧ k_ ≠ gb198) (fun _ => False) rfl rfl ?aP (fun _ hk => hk.elim) ?aF ?aO ?aB ?aS ?aL ?_; (case aP => exact k25_mkM _ _ _ (⟨(rd_T25 l0 x9_2).f0, (rd_T25 l0 x9_2).f1, (rd_T25 l0 x9_2).f2, (rd_T25 l0 x9_2).f3, (rd_T25 l0 x9_2).f4, (rd_T25 l0 x9_2).f5, (rd_T25 l0 x9_2).f6, (rd_T25 l0 x9_2).f7, (rd_T25 l0 x9_2).f8⟩ : S25)); (case aB => exact (by repeat (first | (with_reducible first | exact HB.out | apply below_alloc | apply pw_below_drewN | apply below_drew1 | refine below_set ?_ GE198.out) | exact HB.out))); (case aF => exact (fun k_ hk => ⟨(Nat.le_trans (below_size (by repeat (first | (with_reducible first | exact HB.out | apply below_alloc | apply pw_below_drewN | apply below_drew1 | refine below_set ?_ GE198.out) | exact HB.out))) hk), fb_ BK198.out k_ hk⟩)); (case aO => exact (by (with_reducible repeat (first | apply Kd.R_alloc | apply Kd.R_drewN | apply Kd.R_drew)); exact HO_8.out)); (case aS => exact (below_size (by repeat (first | (with_reducible first | exact HB.out | apply below_alloc | apply pw_below_drewN | apply below_drew1 | refine below_set ?_ GE198.out) | exact HB.out)))); (case aL => have := LMc18.out; omega); intro v205 w19 ho hb hg hat; rw [← Ny204.out] at ho; have n0_ := Aside0.mk (Kd.V_afterv (ok := (fun k_ => (P0_ k_ ∨ w.heap.size ≤ k_) ∧ k_ ≠ gb198)) (by (with_reducible repeat (first | apply Kd.V_alloc | apply Kd.V_drewN | apply Kd.V_drew)); exact Kd.V_mono HO_0.out (fun _ hk => ⟨⟨hk.1, hk.2.2⟩, hk.2.1⟩)) hg hat); have n1_ := Aside0.mk (blk_grown (g := gb198) (o := .cells #[.int .i64 a2_0, .int .i64 a2_1, .int .u32 a2_2, .int .u32 a2_3, .int .u32 a2_4, .int .u32 a2_5, .int .u32 a2_6, .int .u32 a2_7, .int .i64 a2_8] 25 (0, 0)) (by (with_reducible repeat (first | refine blk_drewN ?_ _ | refine blk_drew ?_ | refine blk_alloc ?_ _)); exact BK198.out) hg (Kd.R_away HO_8.out (fun _ hk => hk.2))); have n2_ := Aside0.mk (hb); have n3_ := Aside0.mk (ho); clear HO_0 BK198 HB HO_8; have HO_0 := n0_; have BK198 := n1_; have HB := n2_; have HO206 := n3_; clear n0_ n1_ n2_ n3_; clear ho hb hg hat))
                    go_roundg k2
                    case measure => have := HJ3.out; have := HK2.out; omega
                    case rel => exact ⟨(y204), (wrap64 (x9_2 + 1)), (by first | rfl | (simp; done) | (simp [*]; done)), H', ⟨by have := HJ3.out; have := HK2.out; omega⟩, ⟨by (with_reducible repeat (first | apply Kd.V_alloc | apply Kd.V_drewN | apply Kd.V_drew)); exact Kd.V_mono HO_0.out (fun _ hk => ⟨hk.1.1, ⟨hk.2, hk.1.2⟩⟩)⟩, ⟨by (with_reducible repeat (first | apply Kd.R_alloc | apply Kd.R_drewN | apply Kd.R_drew)); exact HO206.out⟩, ⟨by (with_reducible repeat (first | refine blk_drewN ?_ _ | refine blk_drew ?_ | refine blk_alloc ?_ _)); exact BK198.out⟩, ⟨by repeat (first | (with_reducible first | exact HB.out | apply below_alloc | apply pw_below_drewN | apply below_drew1 | refine below_set ?_ GE198.out) | exact HB.out)⟩⟩
                  · rw [if_neg c18] at H
                    exact absurd H (by simp)
                · rw [if_neg c17] at H
                  exact absurd H (by simp)
            · rw [if_neg c12] at H
              have c12b0 : decide (x9_2 < (l0.length : Int)) = false := decide_eq_false c12
              clear c12
              simp only [Option.some.injEq, Prod.mk.injEq] at H
              obtain ⟨rfl, rfl⟩ := H
              go_wp2
              go_ret2
              exact ⟨_, by first | rfl | (simp [errW_none, errW_some] <;> rfl) | (simp [*, errW_none, errW_some] <;> rfl), Kd.V_mono (Kd.R_V (by (with_reducible repeat (first | apply Kd.R_alloc | apply Kd.R_drewN | apply Kd.R_drew)); exact Kd.R_mono HO_8.out (fun _ hk => hk.1))) (fun k_ hk => by first | exact ⟨(.inr (hk.1)), hk.2⟩ | exact (.inr (hk))), by repeat (first | (with_reducible first | exact HB.out | apply below_alloc | apply pw_below_drewN | apply below_drew1 | refine below_set ?_ GE198.out) | exact HB.out)⟩

/-! ### chamberlainref09_Same: function 18 -/
def chamberlainref09_Same.l0 : Nat → List (S25) → List (S25) → Int → Option (Bool)
  | 0, _, _, _ => none
  | k + 1, x0, x1, x5 => if x5 < (x0.length : Int) then (if 0 ≤ x5 then (if x5 < (x1.length : Int) then (if (!(((rd_T25 x0 x5).f0) == ((rd_T25 x1 x5).f0)) || (!(((rd_T25 x0 x5).f1) == ((rd_T25 x1 x5).f1)) || (!(((rd_T25 x0 x5).f2) == ((rd_T25 x1 x5).f2)) || (!(((rd_T25 x0 x5).f3) == ((rd_T25 x1 x5).f3)) || (!(((rd_T25 x0 x5).f4) == ((rd_T25 x1 x5).f4)) || (!(((rd_T25 x0 x5).f5) == ((rd_T25 x1 x5).f5)) || (!(((rd_T25 x0 x5).f6) == ((rd_T25 x1 x5).f6)) || (!(((rd_T25 x0 x5).f7) == ((rd_T25 x1 x5).f7)) || (!(((rd_T25 x0 x5).f8) == ((rd_T25 x1 x5).f8))))))))))) = true then (some false) else (chamberlainref09_Same.l0 k x0 x1 (wrap64 (x5 + 1)))) else (none)) else (none)) else (some true)
def chamberlainref09_Same.f (k : Nat) (l0 : List (S25)) (l1 : List (S25)) : Option (Bool) := if (l0.length : Int) = (l1.length : Int) then (chamberlainref09_Same.l0 k l0 l1 0) else (some false)
theorem chamberlainref09_Same.mono_l : ∀ k, (∀ y0 y1 y2, LeO (chamberlainref09_Same.l0 k y0 y1 y2) (chamberlainref09_Same.l0 (k + 1) y0 y1 y2))
  | 0 => fun _ _ _ r h => by simp [chamberlainref09_Same.l0] at h
  | k + 1 => by
    have ih0 := chamberlainref09_Same.mono_l k
    · intro y0 y1 y2
      unfold chamberlainref09_Same.l0
      repeat' first
      | (with_reducible exact ih0 _ _ _)
      | (with_reducible exact LeO.refl _)
      | (with_reducible exact LeO.none _)
      | (with_reducible refine LeO.ite ?_ ?_)
      | (with_reducible refine LeO.bind ?_ (fun _ => ?_))
      | exact ih0 _ _ _
      | exact LeO.none _
      | refine LeO.ite ?_ ?_
      | refine LeO.bind ?_ (fun _ => ?_)
theorem chamberlainref09_Same.mono : ∀ a0 a1 k, LeO (chamberlainref09_Same.f k a0 a1) (chamberlainref09_Same.f (k + 1) a0 a1) := by
  intro a0 a1 k
  have ih0 := chamberlainref09_Same.mono_l k
  unfold chamberlainref09_Same.f
  repeat' first
      | (with_reducible exact ih0 _ _ _)
      | (with_reducible exact LeO.refl _)
      | (with_reducible exact LeO.none _)
      | (with_reducible refine LeO.ite ?_ ?_)
      | (with_reducible refine LeO.bind ?_ (fun _ => ?_))
      | exact ih0 _ _ _
      | exact LeO.none _
      | refine LeO.ite ?_ ?_
      | refine LeO.bind ?_ (fun _ => ?_)
set_option maxHeartbeats 8000000 in
set_option maxRecDepth 100000 in
theorem chamberlainref09_Same.calls (k : Nat) (A0 : Option Addr) (c0 : Nat) (l0 : List (S25)) (A1 : Option Addr) (c1 : Nat) (l1 : List (S25)) (r : Bool) (w : World) (hr0 : Kd.C k25 w A0 l0.length l0) (hc0 : l0.length ≤ c0) (hr1 : Kd.C k25 w A1 l1.length l1) (hc1 : l1.length ≤ c1) (h : chamberlainref09_Same.f k l0 l1 = some r) :
    Calls Try.prog 18 #[.slice A0 l0.length c0, .slice A1 l1.length c1] w fun e w' => e = .returned (.bool r) ∧ Drawn0 w w' := by
  have hu25 := Try.underlying25
  have HR0 := Aside0.mk hr0
  have HC0 := Aside0.mk hc0
  clear hr0 hc0
  have HR1 := Aside0.mk hr1
  have HC1 := Aside0.mk hc1
  clear hr1 hc1
  have H : (if (l0.length : Int) = (l1.length : Int) then (chamberlainref09_Same.l0 k l0 l1 0) else (some false)) = some r := h
  clear h
  by_cases c3 : (l0.length : Int) = (l1.length : Int)
  · rw [if_pos c3] at H
    have c3b0 : ((l0.length : Int) == (l1.length : Int)) = true := beq_iff_eq.mpr c3
    have c3b1 : ((l0.length : Int) != (l1.length : Int)) = false := bne_eq_false_iff_eq.mpr c3
    have c3b2 : (l0.length == l1.length) = true := by first | simpa using c3 | (simp at c3 ⊢; omega)
    clear c3
    have H' := Aside0.mk H
    clear H
    go_enter Try.func18, Try.ntmps18
    go_wp2
    repeat (go_quiet (fail); try go_wp2)
    go_loopg [5] k (fun kq v5 w' => ∃ (x5_1 : Int), v5 = .int .i64 x5_1 ∧ Aside0 (chamberlainref09_Same.l0 kq l0 l1 x5_1 = some r) ∧ Aside0 (kq ≤ k) ∧ Drawn0 w w')
    case atStart => exact ⟨(0), (by first | rfl | (simp; done) | (simp [*]; done)), H', ⟨Nat.le_refl _⟩, by repeat (first | exact Drawn0.refl _ | apply Drawn0.step)⟩
    case round =>
      clear H'
      try clear c1
      try clear p2
      try clear c3
      try clear c3b0
      try clear c3b1
      try clear c3b2
      obtain ⟨x5_1, rfl, HA, HK1, ⟨m1, rfl⟩⟩ := hrel
      cases gk with
      | zero => exact absurd HA.out (by simp [chamberlainref09_Same.l0])
      | succ k1 =>
        have H := HA.out
        clear HA
        simp only [chamberlainref09_Same.l0] at H
        by_cases c4 : x5_1 < (l0.length : Int)
        · rw [if_pos c4] at H
          have c4b0 : decide (x5_1 < (l0.length : Int)) = true := decide_eq_true c4
          clear c4
          by_cases c5 : 0 ≤ x5_1
          · rw [if_pos c5] at H
            have c5b0 : decide (0 ≤ x5_1) = true := decide_eq_true c5
            clear c5
            by_cases c6 : x5_1 < (l1.length : Int)
            · rw [if_pos c6] at H
              have c6b0 : decide (x5_1 < (l1.length : Int)) = true := decide_eq_true c6
              clear c6
              by_cases c7 : (!(((rd_T25 l0 x5_1).f0) == ((rd_T25 l1 x5_1).f0)) || (!(((rd_T25 l0 x5_1).f1) == ((rd_T25 l1 x5_1).f1)) || (!(((rd_T25 l0 x5_1).f2) == ((rd_T25 l1 x5_1).f2)) || (!(((rd_T25 l0 x5_1).f3) == ((rd_T25 l1 x5_1).f3)) || (!(((rd_T25 l0 x5_1).f4) == ((rd_T25 l1 x5_1).f4)) || (!(((rd_T25 l0 x5_1).f5) == ((rd_T25 l1 x5_1).f5)) || (!(((rd_T25 l0 x5_1).f6) == ((rd_T25 l1 x5_1).f6)) || (!(((rd_T25 l0 x5_1).f7) == ((rd_T25 l1 x5_1).f7)) || (!(((rd_T25 l0 x5_1).f8) == ((rd_T25 l1 x5_1).f8))))))))))) = true
              · rw [if_pos c7] at H
                have c7b0 : (!(((rd_T25 l0 x5_1).f0) == ((rd_T25 l1 x5_1).f0)) || (!(((rd_T25 l0 x5_1).f1) == ((rd_T25 l1 x5_1).f1)) || (!(((rd_T25 l0 x5_1).f2) == ((rd_T25 l1 x5_1).f2)) || (!(((rd_T25 l0 x5_1).f3) == ((rd_T25 l1 x5_1).f3)) || (!(((rd_T25 l0 x5_1).f4) == ((rd_T25 l1 x5_1).f4)) || (!(((rd_T25 l0 x5_1).f5) == ((rd_T25 l1 x5_1).f5)) || (!(((rd_T25 l0 x5_1).f6) == ((rd_T25 l1 x5_1).f6)) || (!(((rd_T25 l0 x5_1).f7) == ((rd_T25 l1 x5_1).f7)) || (!(((rd_T25 l0 x5_1).f8) == ((rd_T25 l1 x5_1).f8))))))))))) = true := c7
                clear c7
                obtain rfl := Option.some.inj H
                have p207 : 0 ≤ (x5_1 : Int) := of_decide_eq_true (by first | (with_reducible assumption) | assumption)
                have q207 : x5_1 < (l0.length : Int) := of_decide_eq_true (by first | (with_reducible assumption) | assumption)
                obtain ⟨ad207, e207, hx207_0, hx207_1, hx207_2, hx207_3, hx207_4, hx207_5, hx207_6, hx207_7, hx207_8⟩ := at_T25 HR0.out x5_1 p207 q207
                cases e207
                replace p207 := eq_true p207
                replace q207 := eq_true q207
                have p208 : 0 ≤ (x5_1 : Int) := of_decide_eq_true (by first | (with_reducible assumption) | assumption)
                have q208 : x5_1 < (l1.length : Int) := of_decide_eq_true (by first | (with_reducible assumption) | assumption)
                obtain ⟨ad208, e208, hx208_0, hx208_1, hx208_2, hx208_3, hx208_4, hx208_5, hx208_6, hx208_7, hx208_8⟩ := at_T25 HR1.out x5_1 p208 q208
                cases e208
                replace p208 := eq_true p208
                replace q208 := eq_true q208
                go_wp2
                repeat (go_quiet (fail); try go_wp2)
                go_ret
                exact ⟨by first | rfl | (simp; done) | (simp [*]; done), by repeat (first | exact Drawn0.refl _ | apply Drawn0.step)⟩
              · rw [if_neg c7] at H
                have c7b0 : (!(((rd_T25 l0 x5_1).f0) == ((rd_T25 l1 x5_1).f0)) || (!(((rd_T25 l0 x5_1).f1) == ((rd_T25 l1 x5_1).f1)) || (!(((rd_T25 l0 x5_1).f2) == ((rd_T25 l1 x5_1).f2)) || (!(((rd_T25 l0 x5_1).f3) == ((rd_T25 l1 x5_1).f3)) || (!(((rd_T25 l0 x5_1).f4) == ((rd_T25 l1 x5_1).f4)) || (!(((rd_T25 l0 x5_1).f5) == ((rd_T25 l1 x5_1).f5)) || (!(((rd_T25 l0 x5_1).f6) == ((rd_T25 l1 x5_1).f6)) || (!(((rd_T25 l0 x5_1).f7) == ((rd_T25 l1 x5_1).f7)) || (!(((rd_T25 l0 x5_1).f8) == ((rd_T25 l1 x5_1).f8))))))))))) = false := by simpa using c7
                clear c7
                have H' := Aside0.mk H
                clear H
                have p207 : 0 ≤ (x5_1 : Int) := of_decide_eq_true (by first | (with_reducible assumption) | assumption)
                have q207 : x5_1 < (l0.length : Int) := of_decide_eq_true (by first | (with_reducible assumption) | assumption)
                obtain ⟨ad207, e207, hx207_0, hx207_1, hx207_2, hx207_3, hx207_4, hx207_5, hx207_6, hx207_7, hx207_8⟩ := at_T25 HR0.out x5_1 p207 q207
                cases e207
                replace p207 := eq_true p207
                replace q207 := eq_true q207
                have p208 : 0 ≤ (x5_1 : Int) := of_decide_eq_true (by first | (with_reducible assumption) | assumption)
                have q208 : x5_1 < (l1.length : Int) := of_decide_eq_true (by first | (with_reducible assumption) | assumption)
                obtain ⟨ad208, e208, hx208_0, hx208_1, hx208_2, hx208_3, hx208_4, hx208_5, hx208_6, hx208_7, hx208_8⟩ := at_T25 HR1.out x5_1 p208 q208
                cases e208
                replace p208 := eq_true p208
                replace q208 := eq_true q208
                go_wp2
                repeat (go_quiet (fail); try go_wp2)
                go_roundg k1
                case measure => have := HK1.out; omega
                case rel => exact ⟨(wrap64 (x5_1 + 1)), (by first | rfl | (simp; done) | (simp [*]; done)), H', ⟨by have := HK1.out; omega⟩, by repeat (first | exact Drawn0.refl _ | apply Drawn0.step)⟩
            · rw [if_neg c6] at H
              exact absurd H (by simp)
          · rw [if_neg c5] at H
            exact absurd H (by simp)
        · rw [if_neg c4] at H
          have c4b0 : decide (x5_1 < (l0.length : Int)) = false := decide_eq_false c4
          clear c4
          obtain rfl := Option.some.inj H
          go_wp2
          repeat (go_quiet (fail); try go_wp2)
          go_ret
          exact ⟨by first | rfl | (simp; done) | (simp [*]; done), by repeat (first | exact Drawn0.refl _ | apply Drawn0.step)⟩
  · rw [if_neg c3] at H
    have c3b0 : ((l0.length : Int) == (l1.length : Int)) = false := beq_eq_false_iff_ne.mpr c3
    have c3b1 : ((l0.length : Int) != (l1.length : Int)) = true := bne_iff_ne.mpr c3
    have c3b2 : (l0.length == l1.length) = false := by first | simpa using c3 | (simp at c3 ⊢; omega)
    obtain rfl := Option.some.inj H
    go_enter Try.func18, Try.ntmps18
    go_wp2
    repeat (go_quiet (fail); try go_wp2)
    go_ret
    exact ⟨by first | rfl | (simp; done) | (simp [*]; done), by repeat (first | exact Drawn0.refl _ | apply Drawn0.step)⟩

/-! ### chamberlainlaw09_RunsKeeps: function 5 -/
def chamberlainlaw09_RunsKeeps.f (l0 : List (S25)) (a1_0 a1_1 a1_2 a1_3 a1_4 a1_5 a1_6 a1_7 a1_8 : Int) (a2 : Int) : Option (Bool) := some true
namespace uk
theorem wf32 {x : Int} (h : (Lit.int .u32 x).wf = true) : 0 ≤ x ∧ x < 4294967296 := by
  simp only [Lit.wf, IntKind.min, IntKind.max, IntKind.signed, IntKind.bits, Bool.and_eq_true] at h
  simp at h
  omega
theorem wf8 {x : Int} (h : (Lit.int .u8 x).wf = true) : 0 ≤ x ∧ x < 256 := by
  simp only [Lit.wf, IntKind.min, IntKind.max, IntKind.signed, IntKind.bits, Bool.and_eq_true] at h
  simp at h
  omega
theorem wf16 {x : Int} (h : (Lit.int .u16 x).wf = true) : 0 ≤ x ∧ x < 65536 := by
  simp only [Lit.wf, IntKind.min, IntKind.max, IntKind.signed, IntKind.bits, Bool.and_eq_true] at h
  simp at h
  omega
theorem wf64 {x : Int} (h : (Lit.int .i64 x).wf = true) : -9223372036854775808 ≤ x ∧ x ≤ 9223372036854775807 := by
  simp only [Lit.wf, IntKind.min, IntKind.max, IntKind.signed, IntKind.bits, Bool.and_eq_true] at h
  simp at h
  omega
theorem w64 {x : Int} (h1 : -9223372036854775808 ≤ x) (h2 : x ≤ 9223372036854775807) : wrap64 x = x := by
  unfold wrap64
  omega
theorem rd_nat (xs : List Int) (i : Nat) (h : i < xs.length) : rd xs (i : Int) = xs[i] := by
  unfold rd
  simp [List.getD_eq_getElem?_getD, h]
/-- From place i on, n places: does p hold of all? -/
def allF (p : Nat → Bool) : Nat → Nat → Bool
  | 0, _ => true
  | n + 1, i => p i && allF p n (i + 1)
theorem allF_iff (p : Nat → Bool) (n i : Nat) : allF p n i = true ↔ ∀ j, i ≤ j → j < i + n → p j = true := by
  induction n generalizing i with
  | zero => simp [allF]; intro j h1 h2; omega
  | succ n ih =>
    simp only [allF, Bool.and_eq_true, ih]
    constructor
    · rintro ⟨h0, h⟩ j h1 h2
      by_cases e : j = i
      · subst e; exact h0
      · exact h j (by omega) (by omega)
    · intro h
      exact ⟨h i (by omega) (by omega), fun j h1 h2 => h j (by omega) (by omega)⟩
/-- The first place from i on, of n, of which p holds. -/
def fnd (p : Nat → Bool) : Nat → Nat → Option Nat
  | 0, _ => none
  | n + 1, i => if p i = true then some i else fnd p n (i + 1)
theorem fnd_some {p : Nat → Bool} {n i j : Nat} (h : fnd p n i = some j) : i ≤ j ∧ j < i + n ∧ p j = true ∧ ∀ m, i ≤ m → m < j → p m = false := by
  induction n generalizing i with
  | zero => simp [fnd] at h
  | succ n ih =>
    simp only [fnd] at h
    by_cases e : p i = true
    · rw [if_pos e] at h
      cases h
      exact ⟨Nat.le_refl _, by omega, e, fun m h1 h2 => by omega⟩
    · rw [if_neg e] at h
      obtain ⟨h1, h2, h3, h4⟩ := ih h
      refine ⟨by omega, by omega, h3, fun m m1 m2 => ?_⟩
      by_cases c : m = i
      · subst c; simpa using e
      · exact h4 m (by omega) m2
theorem fnd_none {p : Nat → Bool} {n i : Nat} (h : fnd p n i = none) : ∀ m, i ≤ m → m < i + n → p m = false := by
  induction n generalizing i with
  | zero => intro m h1 h2; omega
  | succ n ih =>
    simp only [fnd] at h
    by_cases e : p i = true
    · rw [if_pos e] at h; cases h
    · rw [if_neg e] at h
      intro m h1 h2
      by_cases c : m = i
      · subst c; simpa using e
      · exact ih h m (by omega) (by omega)
theorem fnd_eq_some {p : Nat → Bool} {n i j : Nat} (h1 : i ≤ j) (h2 : j < i + n) (h3 : p j = true) (h4 : ∀ m, i ≤ m → m < j → p m = false) : fnd p n i = some j := by
  cases h : fnd p n i with
  | none => have := fnd_none h j h1 h2; rw [this] at h3; cases h3
  | some q =>
    obtain ⟨a, b, c, d⟩ := fnd_some h
    congr 1
    rcases Nat.lt_trichotomy q j with e | e | e
    · have := h4 q a e; rw [this] at c; cases c
    · exact e
    · have := d j h1 e; rw [this] at h3; cases h3
theorem fnd_eq_none {p : Nat → Bool} {n i : Nat} (h : ∀ m, i ≤ m → m < i + n → p m = false) : fnd p n i = none := by
  cases e : fnd p n i with
  | none => rfl
  | some q =>
    obtain ⟨a, b, c, _⟩ := fnd_some e
    rw [h q a b] at c; cases c
theorem rows_eq (a b : List Int) (h : a.length = b.length) : allF (fun i => decide (rd a (i : Int) = rd b (i : Int))) a.length 0 = decide (a = b) := by
  rw [Bool.eq_iff_iff, allF_iff]
  simp only [decide_eq_true_eq]
  constructor
  · intro H
    apply List.ext_getElem h
    intro i h1 h2
    have := H i (by omega) (by omega)
    rw [rd_nat a i h1, rd_nat b i h2] at this
    exact this
  · intro e j _ _
    rw [e]
/-- A loop that asks place by place. -/
theorem all_loop (f : Nat → Nat → Option Bool) (n : Nat) (p : Nat → Bool) (h : ∀ k i, i ≤ n → f (k + 1) i = if i < n then (if p i = true then f k (i + 1) else some false) else some true) :
    ∀ (d k i : Nat), n - i = d → i ≤ n → d < k → f k i = some (allF p d i) := by
  intro d
  induction d with
  | zero =>
    intro k i h1 h2 h3
    obtain ⟨k, rfl⟩ : ∃ m, k = m + 1 := ⟨k - 1, by omega⟩
    rw [h k i h2, if_neg (by omega)]; rfl
  | succ d ih =>
    intro k i h1 h2 h3
    obtain ⟨k, rfl⟩ : ∃ m, k = m + 1 := ⟨k - 1, by omega⟩
    rw [h k i h2, if_pos (by omega)]
    simp only [allF]
    cases e : p i with
    | true => rw [if_pos rfl, ih k (i + 1) (by omega) (by omega) (by omega)]; simp
    | false => simp
/-- A loop that looks for the first place. -/
theorem fnd_loop {α : Type} (f : Nat → Nat → Option α) (n : Nat) (p : Nat → Bool) (yes : Nat → α) (no : α) (c : Nat) (h : ∀ k i, i ≤ n → c ≤ k → f (k + 1) i = if i < n then (if p i = true then some (yes i) else f k (i + 1)) else some no) :
    ∀ (d k i : Nat), n - i = d → i ≤ n → c + d < k → f k i = some (match fnd p d i with | some j => yes j | none => no) := by
  intro d
  induction d with
  | zero =>
    intro k i h1 h2 h3
    obtain ⟨k, rfl⟩ : ∃ m, k = m + 1 := ⟨k - 1, by omega⟩
    rw [h k i h2 (by omega), if_neg (by omega)]; rfl
  | succ d ih =>
    intro k i h1 h2 h3
    obtain ⟨k, rfl⟩ : ∃ m, k = m + 1 := ⟨k - 1, by omega⟩
    rw [h k i h2 (by omega), if_pos (by omega)]
    simp only [fnd]
    cases e : p i with
    | true => simp
    | false => rw [if_neg (by simp), if_neg (by simp), ih k (i + 1) (by omega) (by omega) (by omega)]
theorem rdL_nat (xs : List (List S25)) (i : Nat) (h : i < xs.length) : rd_L3 xs (i : Int) = xs[i] := by
  unfold rd_L3
  simp [List.getD_eq_getElem?_getD, h]
theorem grow_eq (n : Nat) (h : n < 2932031007402) : api_Run_24.f [] (n : Int) = some [] := by
  unfold api_Run_24.f
  rw [if_neg (by omega), if_neg (by simp)]
  by_cases c : (n : Int) > 0
  · rw [if_pos c, if_pos (by omega), if_pos (by simp; omega)]
    simp
  · rw [if_neg c]
theorem concat_l1 (ll : List (List S25)) (hll : ll.length ≤ 1000000) : ∀ (d k i : Nat) (acc : List S25), ll.length - i = d → i ≤ ll.length → acc.length + ((ll.drop i).map List.length).sum < 2932031007402 → d < k →
    api_Run_21.l1 k acc ll (ll.length : Int) (i : Int) = some (acc ++ (ll.drop i).flatten) := by
  intro d
  induction d with
  | zero =>
    intro k i acc h1 h2 h3 h4
    obtain ⟨k, rfl⟩ : ∃ m, k = m + 1 := ⟨k - 1, by omega⟩
    rw [api_Run_21.l1, if_neg (by omega), List.drop_eq_nil_of_le (by omega)]
    simp
  | succ d ih =>
    intro k i acc h1 h2 h3 h4
    obtain ⟨k, rfl⟩ : ∃ m, k = m + 1 := ⟨k - 1, by omega⟩
    have hi : i < ll.length := by omega
    rw [List.drop_eq_getElem_cons hi] at h3 ⊢
    simp only [List.map_cons, List.sum_cons] at h3
    rw [api_Run_21.l1, if_pos (by omega), if_pos (by omega), if_pos (by omega), rdL_nat ll i hi, if_pos (by omega), w64 (by omega) (by omega)]
    have ei : (i : Int) + 1 = ((i + 1 : Nat) : Int) := by omega
    rw [ei, ih k (i + 1) _ (by omega) (by omega) (by rw [List.length_append]; omega) (by omega), List.flatten_cons, List.append_assoc]
theorem concat_l0 (ll : List (List S25)) (hll : ll.length ≤ 1000000) (hs : (ll.map List.length).sum < 2932031007402) : ∀ (d k i s : Nat), ll.length - i = d → i ≤ ll.length → s + ((ll.drop i).map List.length).sum = (ll.map List.length).sum → d + ll.length + 1 < k →
    api_Run_21.l0 k ll (s : Int) ll (ll.length : Int) (i : Int) = some ll.flatten := by
  intro d
  induction d with
  | zero =>
    intro k i s h1 h2 h3 h4
    obtain ⟨k, rfl⟩ : ∃ m, k = m + 1 := ⟨k - 1, by omega⟩
    rw [List.drop_eq_nil_of_le (by omega)] at h3
    simp only [List.map_nil, List.sum_nil, Nat.add_zero] at h3
    rw [api_Run_21.l0, if_neg (by omega), grow_eq s (by omega), Option.bind_some]
    have h := concat_l1 ll hll ll.length k 0 [] (by omega) (by omega) (by simpa using hs) (by omega)
    simp only [Int.natCast_zero, List.drop_zero, List.nil_append] at h
    exact h
  | succ d ih =>
    intro k i s h1 h2 h3 h4
    obtain ⟨k, rfl⟩ : ∃ m, k = m + 1 := ⟨k - 1, by omega⟩
    have hi : i < ll.length := by omega
    rw [List.drop_eq_getElem_cons hi] at h3
    simp only [List.map_cons, List.sum_cons] at h3
    rw [api_Run_21.l0, if_pos (by omega), if_pos (by omega), if_pos (by omega), rdL_nat ll i hi, w64 (x := (s : Int) + (ll[i].length : Int)) (by omega) (by omega), if_neg (by omega), w64 (by omega) (by omega)]
    have ei : (i : Int) + 1 = ((i + 1 : Nat) : Int) := by omega
    have es : (s : Int) + (ll[i].length : Int) = ((s + ll[i].length : Nat) : Int) := by omega
    rw [ei, es]
    exact ih k (i + 1) _ (by omega) (by omega) (by omega) (by omega)
theorem concat_eq (ll : List (List S25)) (k : Nat) (hll : ll.length ≤ 1000000) (hs : (ll.map List.length).sum < 2932031007402) (hk : ll.length + ll.length + 1 < k) : api_Run_21.f k ll = some ll.flatten := by
  unfold api_Run_21.f
  have h := concat_l0 ll hll hs ll.length k 0 0 (by omega) (by omega) (by simp) (by omega)
  simp only [Int.natCast_zero] at h
  exact h
theorem rdT (xs : List S25) (i : Nat) (h : i < xs.length) : rd_T25 xs (i : Int) = xs[i] := by
  unfold rd_T25
  simp [List.getD_eq_getElem?_getD, h]
theorem fnd_isSome (p : Nat → Bool) (n i : Nat) : (fnd p n i).isSome = !allF (fun j => !p j) n i := by
  induction n generalizing i with
  | zero => rfl
  | succ n ih =>
    simp only [fnd, allF]
    cases e : p i with
    | true => simp
    | false => simp [ih]
def mayB (a b s : Int) : Bool := decide ((a = 1 ∨ a = 2) ∧ (b = 1 ∨ b = 2) ∧ 1 ≤ s ∧ s ≤ 3)
theorem may_eq (a b c d e f g h s : Int) : runs_May.f a b c d e f g h s = some (mayB a b s) := by
  unfold runs_May.f mayB
  repeat' split
  all_goals (congr 1; first | (symm; apply decide_eq_true; omega) | (symm; apply decide_eq_false; omega) | (apply decide_eq_decide.mpr; omega))
def okR (r : S25) : Bool := mayB r.f0 r.f1 r.f8
def allR (l : List S25) : Bool := allF (fun i => okR (rd_T25 l (i : Int))) l.length 0
theorem allR_iff (l : List S25) : allR l = true ↔ ∀ i (h : i < l.length), okR l[i] = true := by
  unfold allR
  rw [allF_iff]
  constructor
  · intro H i hi
    have := H i (by omega) (by omega)
    rwa [rdT l i hi] at this
  · intro H i _ hi
    rw [rdT l i (by omega)]
    exact H i (by omega)
theorem right_eq (l : List S25) (room : Int) (k : Nat) (hl : l.length ≤ 1000000) (hk : l.length < k) : runs_Right.f k l room = some (decide ((l.length : Int) ≤ room) && allR l) := by
  unfold runs_Right.f
  by_cases c : (l.length : Int) ≤ room
  · rw [if_pos c, decide_eq_true c, Bool.true_and]
    have h := fnd_loop (fun k i => api_Run_23.l0 k l (l.length : Int) (i : Int)) l.length (fun i => !okR (rd_T25 l (i : Int))) (fun j => (j : Int)) (-1) 0 (by
      intro k i hi _
      rw [api_Run_23.l0]
      by_cases c : i < l.length
      · rw [if_pos (by omega), if_pos (by omega), if_pos (by omega), if_pos c, runs_Right_1.f, may_eq, Option.bind_some, Option.bind_some, w64 (by omega) (by omega)]
        have ei : (i : Int) + 1 = ((i + 1 : Nat) : Int) := by omega
        rw [ei]; rfl
      · rw [if_neg (by omega), if_neg c]) l.length k 0 (by omega) (by omega) (by omega)
    simp only [Int.natCast_zero] at h
    unfold api_Run_19.f api_Run_23.f
    rw [h, Option.bind_some, Option.bind_some]
    have hs := fnd_isSome (fun i => !okR (rd_T25 l (i : Int))) l.length 0
    simp only [Bool.not_not] at hs
    have hs2 : (fnd (fun i => !okR (rd_T25 l (i : Int))) l.length 0).isSome = !allR l := hs
    cases e : fnd (fun i => !okR (rd_T25 l (i : Int))) l.length 0 with
    | some j => rw [e] at hs2; simp at hs2; simp [hs2]
    | none => rw [e] at hs2; simp at hs2; simp [hs2]
  · rw [if_neg c, decide_eq_false c]; rfl
def kindB (l : List S25) (fr a b s : Int) (i : Nat) : Bool := decide (fr ≤ (i : Int) ∧ (rd_T25 l (i : Int)).f0 = a ∧ (rd_T25 l (i : Int)).f1 = b ∧ (rd_T25 l (i : Int)).f8 = s)
def nextOf (l : List S25) (fr a b s : Int) : Int × Bool := match fnd (kindB l fr a b s) l.length 0 with | some j => ((j : Int), true) | none => (0, false)
theorem next_eq (l : List S25) (fr a b s : Int) (k : Nat) (hl : l.length ≤ 1000000) (hk : l.length < k) : runs_Next.f k l fr a b s = some (nextOf l fr a b s) := by
  unfold runs_Next.f nextOf
  have h := fnd_loop (fun k i => runs_Next.l0 k l fr a b s (l.length : Int) (i : Int)) l.length (kindB l fr a b s) (fun j => ((j : Int), true)) (0, false) 0 (by
    intro k i hi _
    rw [runs_Next.l0]
    by_cases c : i < l.length
    · rw [if_pos (by omega), if_pos (by omega), if_pos (by omega), if_pos c, w64 (by omega) (by omega)]
      have ei : (i : Int) + 1 = ((i + 1 : Nat) : Int) := by omega
      rw [ei]
      unfold kindB
      by_cases h1 : (i : Int) ≥ fr
      · by_cases h2 : (rd_T25 l (i : Int)).f0 = a
        · by_cases h3 : (rd_T25 l (i : Int)).f1 = b
          · by_cases h4 : (rd_T25 l (i : Int)).f8 = s
            · rw [if_pos h1, if_pos h2, if_pos h3, if_pos h4, if_pos (decide_eq_true ⟨h1, h2, h3, h4⟩)]
            · rw [if_pos h1, if_pos h2, if_pos h3, if_neg h4, if_neg (by simp [h4])]
          · rw [if_pos h1, if_pos h2, if_neg h3, if_neg (by simp [h3])]
        · rw [if_pos h1, if_neg h2, if_neg (by simp [h2])]
      · rw [if_neg h1, if_neg (by simp; omega)]
    · rw [if_neg (by omega), if_neg c]) l.length k 0 (by omega) (by omega) (by omega)
  simp only [Int.natCast_zero] at h
  rw [h]
def addOf (l : List S25) (room : Int) (r : S25) : List S25 × Int := if okR r = true then (if (l.length : Int) ≥ room then (l, 10) else (l ++ [r], 0)) else (l, 1)
theorem add_eq (l : List S25) (room : Int) (a b c d e f g h s : Int) (k : Nat) (hl : l.length ≤ 1000000) (hk : 10 < k) : runs_Add.f k l room a b c d e f g h s = some (addOf l room ⟨a, b, c, d, e, f, g, h, s⟩) := by
  unfold runs_Add.f addOf okR
  rw [may_eq, Option.bind_some]
  by_cases c1 : mayB a b s = true
  · rw [if_pos c1, if_pos c1]
    by_cases c2 : (l.length : Int) ≥ room
    · rw [if_pos c2, if_pos c2]
    · rw [if_neg c2, if_neg c2, concat_eq _ k (by simp) (by simp; omega) (by simp; omega), Option.bind_some]
      simp
  · rw [if_neg c1, if_neg c1]
theorem clone_eq (l : List S25) (h : l.length < 2932031007402) : api_Run_22.f l = some l := by
  unfold api_Run_22.f
  rw [Option.bind_some, List.length_nil, if_pos (by omega), List.nil_append]
def setOf (l : List S25) (i : Int) (r : S25) : List S25 × Int := if i < 0 ∨ i ≥ (l.length : Int) ∨ okR r = false then (l, 1) else (l.set i.toNat r, 0)
theorem set_eq (l : List S25) (i : Int) (a b c d e f g h s : Int) (hl : l.length ≤ 1000000) : runs_Set.f l i a b c d e f g h s = some (setOf l i ⟨a, b, c, d, e, f, g, h, s⟩) := by
  unfold runs_Set.f setOf okR
  by_cases c1 : i < 0
  · rw [if_pos c1, if_pos (Or.inl c1)]
  rw [if_neg c1]
  by_cases c2 : i ≥ (l.length : Int)
  · rw [if_pos c2, if_pos (Or.inr (Or.inl c2))]
  rw [if_neg c2, may_eq, Option.bind_some]
  by_cases c3 : mayB a b s = true
  · rw [if_pos c3, clone_eq l (by omega), Option.bind_some, if_pos (by omega), if_pos (by omega), if_neg]
    intro q
    rcases q with q | q | q
    · exact c1 q
    · exact c2 q
    · simp [c3] at q
  · rw [if_neg c3, if_pos (Or.inr (Or.inr (by simpa using c3)))]
theorem awake60 (k : Nat) (h : 60 ≤ k) : chamberlainlaw09_awake.f k = some true := at_rounds (chamberlainlaw09_awake.mono) h chamberlainlaw09_awake.at60
theorem rmay_eq (a b c d e f g h s : Int) : chamberlainref09_May.f a b c d e f g h s = some (mayB a b s) := by
  unfold chamberlainref09_May.f mayB
  repeat' split
  all_goals first
    | (congr 1; symm; apply decide_eq_true; omega)
    | (congr 1; symm; apply decide_eq_false; omega)
    | (congr 1; rw [Bool.eq_iff_iff]; simp; omega)
theorem rright_eq (l : List S25) (room : Int) (k : Nat) (hl : l.length ≤ 1000000) (hk : l.length < k) : chamberlainref09_Right.f k l room = some (decide ((l.length : Int) ≤ room) && allR l) := by
  unfold chamberlainref09_Right.f
  have h : ∀ (d k i : Nat), l.length - i = d → i ≤ l.length → d < k → chamberlainref09_Right.l0 k l room (i : Int) = some (decide ((l.length : Int) ≤ room) && allF (fun i => okR (rd_T25 l (i : Int))) d i) := by
    intro d
    induction d with
    | zero =>
      intro k i h1 h2 h3
      obtain ⟨k, rfl⟩ : ∃ m, k = m + 1 := ⟨k - 1, by omega⟩
      rw [chamberlainref09_Right.l0, if_neg (by omega), allF, Bool.and_true]
    | succ d ih =>
      intro k i h1 h2 h3
      obtain ⟨k, rfl⟩ : ∃ m, k = m + 1 := ⟨k - 1, by omega⟩
      have ei : (i : Int) + 1 = ((i + 1 : Nat) : Int) := by omega
      rw [chamberlainref09_Right.l0, if_pos (by omega), if_pos (by omega), rmay_eq, Option.bind_some, w64 (by omega) (by omega), ei, ih k (i + 1) (by omega) (by omega) (by omega), allF]
      have eo : okR (rd_T25 l (i : Int)) = mayB (rd_T25 l (i : Int)).f0 (rd_T25 l (i : Int)).f1 (rd_T25 l (i : Int)).f8 := rfl
      rw [eo]
      cases mayB (rd_T25 l (i : Int)).f0 (rd_T25 l (i : Int)).f1 (rd_T25 l (i : Int)).f8 <;> simp
  have h0 := h l.length k 0 (by omega) (by omega) (by omega)
  simp only [Int.natCast_zero] at h0
  exact h0
theorem radd_eq (l : List S25) (room : Int) (a b c d e f g h s : Int) (hl : l.length ≤ 1000000) : chamberlainref09_Add.f l room a b c d e f g h s = some (addOf l room ⟨a, b, c, d, e, f, g, h, s⟩) := by
  unfold chamberlainref09_Add.f addOf okR
  rw [rmay_eq, Option.bind_some]
  by_cases c1 : mayB a b s = true
  · rw [if_pos c1, if_pos c1]
    by_cases c2 : (l.length : Int) ≥ room
    · rw [if_pos c2, if_pos c2]
    · rw [if_neg c2, if_neg c2, Option.bind_some, List.length_nil, if_pos (by omega), Option.bind_some, Option.bind_some, List.nil_append, if_pos (by simp; omega)]
  · rw [if_neg c1, if_neg c1]
theorem rset_l0 (l : List S25) (n : Nat) (a b c d e f g h s : Int) (hl : l.length ≤ 1000000) : ∀ (q k i : Nat) (acc : List S25), l.length - i = q → i ≤ l.length → acc = (l.set n ⟨a, b, c, d, e, f, g, h, s⟩).take i → q < k →
    chamberlainref09_Set.l0 k l (n : Int) acc (i : Int) a b c d e f g h s = some (l.set n ⟨a, b, c, d, e, f, g, h, s⟩, 0) := by
  intro q
  induction q with
  | zero =>
    intro k i acc h1 h2 h3 h4
    obtain ⟨k, rfl⟩ : ∃ m, k = m + 1 := ⟨k - 1, by omega⟩
    rw [chamberlainref09_Set.l0, if_neg (by omega), h3, List.take_of_length_le (by simp; omega)]
  | succ q ih =>
    intro k i acc h1 h2 h3 h4
    obtain ⟨k, rfl⟩ : ∃ m, k = m + 1 := ⟨k - 1, by omega⟩
    have hi : i < l.length := by omega
    have hlen : acc.length ≤ i := by rw [h3, List.length_take]; omega
    have ei : (i : Int) + 1 = ((i + 1 : Nat) : Int) := by omega
    have hs : (l.set n ⟨a, b, c, d, e, f, g, h, s⟩).take (i + 1) = (l.set n ⟨a, b, c, d, e, f, g, h, s⟩).take i ++ [(l.set n ⟨a, b, c, d, e, f, g, h, s⟩)[i]'(by simpa using hi)] := by
      rw [List.take_succ_eq_append_getElem (by simpa using hi)]
    rw [chamberlainref09_Set.l0, if_pos (by omega)]
    by_cases c : i = n
    · subst c
      rw [if_pos rfl, if_pos (by omega), w64 (by omega) (by omega), ei]
      apply ih k (i + 1) _ (by omega) (by omega) _ (by omega)
      rw [hs, h3]; simp
    · rw [if_neg (by omega), if_pos (by omega), if_pos (by omega), w64 (by omega) (by omega), ei]
      apply ih k (i + 1) _ (by omega) (by omega) _ (by omega)
      rw [hs, h3, rdT l i hi, List.getElem_set_ne (by omega)]
theorem rset_eq (l : List S25) (i : Int) (a b c d e f g h s : Int) (k : Nat) (hl : l.length ≤ 1000000) (hk : l.length + 2 < k) : chamberlainref09_Set.f k l i a b c d e f g h s = some (setOf l i ⟨a, b, c, d, e, f, g, h, s⟩) := by
  unfold chamberlainref09_Set.f setOf okR
  obtain ⟨k, rfl⟩ : ∃ m, k = m + 1 := ⟨k - 1, by omega⟩
  by_cases c1 : i < 0
  · rw [if_pos c1, if_pos (Or.inl c1), chamberlainref09_Set.j0, if_pos rfl]
  rw [if_neg c1]
  by_cases c2 : i ≥ (l.length : Int)
  · rw [if_pos c2, if_pos (Or.inr (Or.inl c2)), chamberlainref09_Set.j0, if_pos rfl]
  rw [if_neg c2, rmay_eq, Option.bind_some, chamberlainref09_Set.j0]
  by_cases c3 : mayB a b s = true
  · obtain ⟨n, rfl⟩ : ∃ n : Nat, i = (n : Int) := ⟨i.toNat, by omega⟩
    have h0 := rset_l0 l n a b c d e f g h s hl l.length k 0 [] (by omega) (by omega) (by simp) (by omega)
    simp only [Int.natCast_zero] at h0
    rw [if_neg (by simp [c3]), h0, if_neg]
    · rfl
    · intro q
      rcases q with q | q | q
      · exact c1 q
      · exact c2 q
      · simp [c3] at q
  · rw [if_pos (by simpa using c3), if_pos (Or.inr (Or.inr (by simpa using c3)))]
theorem rsame_self (l : List S25) (k : Nat) (hl : l.length ≤ 1000000) (hk : l.length < k) : chamberlainref09_Same.f k l l = some true := by
  unfold chamberlainref09_Same.f
  rw [if_pos rfl]
  have h : ∀ (d k i : Nat), l.length - i = d → i ≤ l.length → d < k → chamberlainref09_Same.l0 k l l (i : Int) = some true := by
    intro d
    induction d with
    | zero =>
      intro k i h1 h2 h3
      obtain ⟨k, rfl⟩ : ∃ m, k = m + 1 := ⟨k - 1, by omega⟩
      rw [chamberlainref09_Same.l0, if_neg (by omega)]
    | succ d ih =>
      intro k i h1 h2 h3
      obtain ⟨k, rfl⟩ : ∃ m, k = m + 1 := ⟨k - 1, by omega⟩
      have ei : (i : Int) + 1 = ((i + 1 : Nat) : Int) := by omega
      rw [chamberlainref09_Same.l0, if_pos (by omega), if_pos (by omega), if_pos (by omega), if_neg (by simp), w64 (by omega) (by omega), ei, ih k (i + 1) (by omega) (by omega) (by omega)]
  have h0 := h l.length k 0 (by omega) (by omega) (by omega)
  simp only [Int.natCast_zero] at h0
  exact h0
end uk
theorem kc.run {P : Program} (w : World) (dT sT ty elem : TypeId) (s g dLen dCap : Nat) (sp : Option Addr) (sLen sCap : Nat) (cur : List Value) (t : TypeId) (cs : List Value)
    (hu : P.underlying dT = some (.slice elem)) (hs : (P.info? elem).map (·.size) = some s) (hg : w.heap[g]? = some (.cells cur.toArray t (0, 0))) (hn : cs.length = Nat.min sLen dLen * s)
    (hsrc : 0 < cs.length → ∃ a, sp = some a ∧ ∀ j v, cs[j]? = some v → w.cell? (a.add j) = some v) (hfit : cs.length ≤ cur.length) (h1 : ∀ v ∈ cs, v.oneCell' = true) :
    (Builtin.copy_ #[dT, sT] ty #[.slice (some ⟨g, 0, none⟩) dLen dCap, .slice sp sLen sCap]).run P w = .ok (goInt (Nat.min sLen dLen)) (w.setRow g (cs ++ cur.drop cs.length).toArray) := by
  have hst := run_storeCells_at P g 0 t cs 0 cur.toArray w hg (by simpa using hfit) h1
  simp only [Nat.zero_add, List.take_zero, List.nil_append] at hst
  cases hq : P.info? elem with
  | none => simp [hq] at hs
  | some i =>
    have hi : i.size = s := by simpa [hq] using hs
    rcases Nat.eq_zero_or_pos cs.length with h0 | hp
    · obtain rfl : cs = [] := List.eq_nil_of_length_eq_zero h0
      have hl : ∀ (x : Addr), (loadCells x 0).run P w = .ok #[] w := fun x => by simpa using run_loadCells_list (P := P) w x [] (by simp)
      have hz : Nat.min sLen dLen * s = 0 := by simpa using hn.symm
      have hw : w.setRow g (([] : List Value) ++ cur.drop ([] : List Value).length).toArray = w := by simpa using setRow_self w g cur.toArray t (0, 0) hg
      rw [hw]
      cases sp <;> simp [Builtin.copy_, run_underlying hu, Builtin.lenOf, Builtin.firstCells, sizeOf, typeInfo, hq, hi, hz, hl, storeCells]
    · obtain ⟨a, rfl, hc⟩ := hsrc hp
      have hl := run_loadCells_list (P := P) w a cs hc
      simp [Builtin.copy_, run_underlying hu, Builtin.lenOf, Builtin.firstCells, sizeOf, typeInfo, hq, hi, ← hn, hl]
      simp [hst]
theorem kc.wp {P : Program} {w : World} {ops : Array Oper} {rest : List Oper} {o : Oper} {a : Act} {Q : Exit → Act → World → Prop} (hgd : o.guard = none) (d s : Operand) (dT sT elem : TypeId)
    (ho : o.op = .call { callee := .builtin .copy, args := #[d, s], argTypes := #[dT, sT] }) (sz g dLen dCap : Nat) (sp : Option Addr) (sLen sCap : Nat) (hd : a.eval d = .slice (some ⟨g, 0, none⟩) dLen dCap) (hs : a.eval s = .slice sp sLen sCap)
    (cur : List Value) (t : TypeId) (cs : List Value)
    (hu : P.underlying dT = some (.slice elem)) (hsz : (P.info? elem).map (·.size) = some sz) (hg : w.heap[g]? = some (.cells cur.toArray t (0, 0))) (hn : cs.length = Nat.min sLen dLen * sz)
    (hsrc : 0 < cs.length → ∃ a, sp = some a ∧ ∀ j v, cs[j]? = some v → w.cell? (a.add j) = some v) (hfit : cs.length ≤ cur.length) (h1 : ∀ v ∈ cs, v.oneCell' = true) (B : Nat) (w0 : World) (hb : Below B w0 w) (hBg : B ≤ g)
    (h : ∀ w', w'.heap[g]? = some (.cells (cs ++ cur.drop cs.length).toArray t (0, 0)) → Below B w0 w' → (∀ k, k ≠ g → w'.heap[k]? = w.heap[k]?) → wpList P ops Q rest (a.put o.dst (goInt (Nat.min sLen dLen))) w') : wpList P ops Q (o :: rest) a w := by
  refine wpList_plain hgd fun K hK => ?_
  have hr := kc.run (P := P) w dT sT o.type elem sz g dLen dCap sp sLen sCap cur t cs hu hsz hg hn hsrc hfit h1
  unfold Oper.wp execOp
  simp only [ho, resolve, invoke, builtin, Sem.run_bind, Sem.run_pure, Result.andThen_ok, List.map_toArray, List.map_cons, List.map_nil, hd, hs, hr]
  exact hK _ _ (h _ (setRow_heap w g _ _ t _ hg) (below_setRow hb hBg _) (fun k hk => setRow_other w g k _ hk))
theorem nrow.add0 (g n : Nat) : (⟨g, 0, none⟩ : Addr).add n = ⟨g, n, none⟩ := by
  unfold Addr.add
  by_cases h : n = 0
  · subst h; rfl
  · simp [h]
theorem nrow.F_block {α : Type} {d : Kd α} {W : World} {ok : Nat → Prop} {g : Nat} {cs : Array Value} {t : TypeId} (xs : List α) (rows : List (List Value)) (hb : W.heap[g]? = some (.cells cs t (0, 0))) (hok : ok g) (hl : rows.length = xs.length)
    (hr : ∀ (j : Nat) (x : α) (c : List Value), xs[j]? = some x → rows[j]? = some c → Kd.FK d W ok x c ∧ c.length = d.sz) (hc : ∀ (j : Nat) (c : List Value), rows[j]? = some c → ∀ (i : Nat) (u : Value), c[i]? = some u → cs[j * d.sz + i]? = some u) (hn : xs.length ≤ 9223372036854775807) :
    Kd.F d W ok (some ⟨g, 0, none⟩) xs.length xs := by
  intro W' hW
  have hb' : W'.heap[g]? = some (.cells cs t (0, 0)) := (hW g hok (blk_lt hb)).trans hb
  refine ⟨rfl, hn, fun _ => ⟨⟨g, 0, none⟩, rfl, fun j p hp => ?_⟩⟩
  have hj : j < xs.length := (List.getElem?_eq_some_iff.1 hp).1
  obtain ⟨c, hcj⟩ : ∃ c, rows[j]? = some c := ⟨rows[j]'(by omega), List.getElem?_eq_getElem (by omega)⟩
  obtain ⟨h1, h2⟩ := hr j p c hp hcj
  refine ⟨c, h2, h1 W' hW, fun i u hu => ?_⟩
  have := blk_cell hb' (j * d.sz + i)
  rw [hc j c hcj i u hu] at this
  rw [show (⟨g, 0, none⟩ : Addr).add (j * d.sz + i) = ⟨g, j * d.sz + i, none⟩ from nrow.add0 _ _]
  exact this
theorem nrow.olds {α : Type} {d : Kd α} {W : World} {ok : Nat → Prop} {A : Option Addr} {l : List α} (h : Kd.F d W ok A l.length l) (hs : 0 < d.sz) :
    ∃ olds : List Value, olds.length = l.length * d.sz ∧ (∀ b, A = some b → ∀ j u, olds[j]? = some u → W.cell? (b.add j) = some u) ∧ (A = none → l.length = 0) ∧ (∀ (j : Nat) (x : α), l[j]? = some x → Kd.FK d W ok x ((olds.drop (j * d.sz)).take d.sz)) ∧ ∀ u ∈ olds, u.oneCell' = true := by
  have hr := Kd.F_rows h
  rcases Nat.eq_zero_or_pos l.length with h0 | hp
  · have : l = [] := List.eq_nil_of_length_eq_zero h0
    subst this
    exact ⟨[], by simp, fun b _ j u hu => by simp at hu, fun _ => rfl, fun j x hx => by simp at hx, fun u hu => by simp at hu⟩
  · obtain ⟨ad, rfl, _⟩ := hr.2.2 hp
    obtain ⟨inner, hi, hc⟩ := ReadsRow.inner_ hr
    refine ⟨inner, hi.1, fun b e j u hu => (by cases e; exact hc j u hu), (fun e => by cases e), hi.2, fun u hu => ?_⟩
    obtain ⟨j, hj, rfl⟩ := List.getElem_of_mem hu
    have hq : j / d.sz < l.length := Nat.div_lt_of_lt_mul (by rw [Nat.mul_comm, ← hi.1]; exact hj)
    have hk := hi.2 (j / d.sz) _ (List.getElem?_eq_getElem hq)
    refine d.K_one (Kd.FK_now hk) _ (List.mem_iff_getElem?.2 ⟨j % d.sz, ?_⟩)
    rw [List.getElem?_take, if_pos (Nat.mod_lt _ hs), List.getElem?_drop, Nat.mul_comm, Nat.div_add_mod, List.getElem?_eq_getElem hj]
theorem kk.open_ {W : World} {base sz e : Nat} {ok : Nat → Prop} {v : Value} {xs : List (List Value)} (h : Kd.R (Kd.raw sz) e W base ok v xs) (hp : 0 < xs.length) :
    ∃ g cap cur, v = .slice (some ⟨g, 0, none⟩) xs.length cap ∧ base ≤ g ∧ g < W.heap.size ∧ xs.length ≤ cap ∧ cap ≤ maxLen ∧ W.heap[g]? = some (.cells cur e (0, 0)) ∧ cur.size = cap * sz ∧ ∀ (j : Nat) (c : List Value), xs[j]? = some c → ∀ (i : Nat) (u : Value), c[i]? = some u → cur.toList[j * sz + i]? = some u := by
  obtain ⟨_, inner, ⟨hl, hn | ⟨g, cap, cur, hv, hb, hh, h1, h2, h3, h4⟩⟩, hr⟩ := h
  · omega
  · refine ⟨g, cap, cur, hv, hb, blk_lt hh, h1, h2, hh, h3, fun j c hc i u hu => ?_⟩
    have hm : (inner.drop (j * sz)).take sz = c := (hr.2 j c hc).1
    subst hm
    rw [List.getElem?_take] at hu
    split at hu
    · rw [List.getElem?_drop, ← h4, List.getElem?_take] at hu
      split at hu
      · exact hu
      · cases hu
    · cases hu
theorem kk.own {α : Type} {d : Kd α} {w W3 W4 : World} {g t : Nat} {l : List α} {olds rest : List Value} (hb3 : Below w.heap.size w W3) (hb4 : Below w.heap.size w W4) (hq : W4.heap[g]? = some (.cells (olds ++ rest).toArray t (0, 0))) (ho : olds.length = l.length * d.sz)
    (hf : ∀ (j : Nat) (x : α), l[j]? = some x → Kd.FK d W3 (fun k => k < w.heap.size) x ((olds.drop (j * d.sz)).take d.sz)) (hn : l.length ≤ 9223372036854775807) : Kd.F d W4 (fun k => k = g ∨ k < w.heap.size) (some ⟨g, 0, none⟩) l.length l := by
  refine nrow.F_block l (Kd.chunks d.sz l.length olds) hq (.inl rfl) (Kd.chunks_length _ _ _) ?_ ?_ hn
  · intro j x c hx hc
    have hj : j < l.length := (List.getElem?_eq_some_iff.1 hx).1
    obtain rfl := Kd.chunks_get hc
    refine ⟨Kd.FK_mono (Kd.FK_step (hf j x hx) (fun k hk _ => (hb4.block k hk).trans (hb3.block k hk).symm)) (fun k hk => .inr hk), ?_⟩
    rw [List.length_take, List.length_drop, ho]
    have : j * d.sz + d.sz ≤ l.length * d.sz := by rw [← Nat.succ_mul]; exact Nat.mul_le_mul_right _ hj
    omega
  · intro j c hc i u hu
    have hj : j < l.length := by have := (List.getElem?_eq_some_iff.1 hc).1; rwa [Kd.chunks_length] at this
    obtain rfl := Kd.chunks_get hc
    have hi : i < d.sz := by have := (List.getElem?_eq_some_iff.1 hu).1; rw [List.length_take] at this; omega
    rw [List.getElem?_take, if_pos hi, List.getElem?_drop] at hu
    have hlt := (List.getElem?_eq_some_iff.1 hu).1
    rw [List.getElem?_toArray, List.getElem?_append_left hlt]
    exact hu
/-- A block of so many cells. -/
def kk.Blk (W : World) (g t N : Nat) : Prop := ∃ cur, W.heap[g]? = some (.cells cur t (0, 0)) ∧ cur.size = N
theorem kk.Blk.set {W : World} {g t N : Nat} (h : kk.Blk W g t N) (j : Nat) (v : Value) : kk.Blk (W.setCell ⟨g, j, none⟩ v) g t N := by
  obtain ⟨cur, hc, hs⟩ := h
  exact ⟨cur.setIfInBounds j v, blk_put hc j v rfl, by simpa using hs⟩
theorem kk.Blk.cell {W : World} {g t N : Nat} (h : kk.Blk W g t N) (j : Nat) (hj : j < N) : ∃ v, W.cell? ⟨g, j, none⟩ = some v ∧ W.frozen? ⟨g, j, none⟩ = false := by
  obtain ⟨cur, hc, hs⟩ := h
  exact ⟨cur[j]'(by omega), (blk_cell hc j).trans (Array.getElem?_eq_getElem (by omega)), blk_frozen hc j⟩
theorem kk.Blk.below {W W1 : World} {g t N : Nat} (h : kk.Blk W g t N) (hb : Below W.heap.size W W1) : kk.Blk W1 g t N := by
  obtain ⟨cur, hc, hs⟩ := h
  exact ⟨cur, blk_below hc hb, hs⟩
theorem kk.Blk.grown {W W1 : World} {g t N : Nat} (h : kk.Blk W g t N) {row : Option Nat} (hg : W.grownBy W1 row) (hne : some g ≠ row) : kk.Blk W1 g t N := by
  obtain ⟨cur, hc, hs⟩ := h
  exact ⟨cur, (hg.block g (blk_lt hc) hne).trans hc, hs⟩
theorem kk.src {W : World} {A : Option Addr} {n sz : Nat} {olds : List Value} (h1 : olds.length = n * sz) (h2 : ∀ b, A = some b → ∀ j u, olds[j]? = some u → W.cell? (b.add j) = some u) (h3 : A = none → n = 0) : 0 < olds.length → ∃ a, A = some a ∧ ∀ j v, olds[j]? = some v → W.cell? (a.add j) = some v := by
  intro hp
  cases A with
  | none => rw [h3 rfl, Nat.zero_mul] at h1; omega
  | some b => exact ⟨b, rfl, h2 b rfl⟩
theorem kk.cut (t g cap n m s : Nat) (hu : Try.prog.underlying t = some (.slice (Try.prog.elem t))) (hs : ∀ W : World, (sizeOf (Try.prog.elem t)).run Try.prog W = .ok s W) (hm : m ≤ n) (hn : n ≤ cap) : ∀ W : World, (Instr.slice t (.slice (some ⟨g, 0, none⟩) n cap) none (some (.int .i64 (m : Int))) none).run Try.prog W = .ok (.slice (some ⟨g, 0, none⟩) m cap) W := by
  intro W
  rw [run_slice_h W t (some ⟨g, 0, none⟩) n cap hu .i64 (m : Int) (by omega) (by omega), hs]
  simp [sliced, Result.andThen, Addr.add]
theorem kk.rest {olds cur zs : List Value} {l sz : Nat} (ho : olds.length = l * sz) (hz : ∀ (i : Nat) (u : Value), zs[i]? = some u → cur[l * sz + i]? = some u) : ∀ (i : Nat) (u : Value), zs[i]? = some u → (olds ++ cur.drop olds.length).toArray[l * sz + i]? = some u := by
  intro i u hu
  rw [List.getElem?_toArray, List.getElem?_append_right (by omega), List.getElem?_drop, show olds.length + (l * sz + i - olds.length) = l * sz + i by omega]
  exact hz i u hu
set_option maxHeartbeats 8000000 in
set_option maxRecDepth 100000 in
theorem runs_Add.new (k : Nat) (P0_ : Nat → Prop) (A0 : Option Addr) (c0 : Nat) (l0 : List (S25)) (a1 : Int) (a2_0 : Int) (a2_1 : Int) (a2_2 : Int) (a2_3 : Int) (a2_4 : Int) (a2_5 : Int) (a2_6 : Int) (a2_7 : Int) (a2_8 : Int) (r1 : List (S25)) (r2 : Int) (w : World) (hs0 : Kd.V k25 25 w w.heap.size (fun k_ => P0_ k_) (.slice A0 l0.length c0) l0) (h : runs_Add.f k l0 a1 a2_0 a2_1 a2_2 a2_3 a2_4 a2_5 a2_6 a2_7 a2_8 = some (r1, r2)) :
    Calls Try.prog 12 #[.slice A0 l0.length c0, .int .i64 a1, .agg #[.int .i64 a2_0, .int .i64 a2_1, .int .u32 a2_2, .int .u32 a2_3, .int .u32 a2_4, .int .u32 a2_5, .int .u32 a2_6, .int .u32 a2_7, .int .i64 a2_8]] w fun e w' => ∃ v0_ : Value, e = .returned (.tuple #[v0_, .int .i64 r2]) ∧ (r2 = 0 → Kd.V k25 25 w' w.heap.size (fun k_ => w.heap.size ≤ k_) v0_ r1) ∧ Below w.heap.size w w' := by
  have hu25 := Try.underlying25
  have HO0 := Aside0.mk (show Kd.V k25 25 w w.heap.size (fun k_ => (P0_ k_ ∨ w.heap.size ≤ k_)) (.slice A0 l0.length c0) l0 from Kd.V_mono hs0 (fun k_ hk => .inl hk))
  have HB := Aside0.mk (Below.refl w.heap.size w)
  have H : ((runs_May.f a2_0 a2_1 a2_2 a2_3 a2_4 a2_5 a2_6 a2_7 a2_8).bind fun t123 => (if t123 = true then (if (l0.length : Int) ≥ a1 then (some (l0, 10)) else ((api_Run_21.f k (([l0, (([(⟨a2_0, a2_1, a2_2, a2_3, a2_4, a2_5, a2_6, a2_7, a2_8⟩ : S25)] : List (S25)))] : List (List (S25))))).bind fun t130 => (some (t130, 0)))) else (some (l0, 1)))) = some (r1, r2) := h
  clear h
  replace H := Option.bind_eq_some_iff.mp H
  obtain ⟨t123, A40, H⟩ := H
  replace H : (if t123 = true then (if (l0.length : Int) ≥ a1 then (some (l0, 10)) else ((api_Run_21.f k (([l0, (([(⟨a2_0, a2_1, a2_2, a2_3, a2_4, a2_5, a2_6, a2_7, a2_8⟩ : S25)] : List (S25)))] : List (List (S25))))).bind fun t130 => (some (t130, 0)))) else (some (l0, 1))) = some (r1, r2) := H
  have A4 := Aside0.mk A40
  clear A40
  by_cases c5 : t123 = true
  · subst c5
    have H1 : (if (l0.length : Int) ≥ a1 then (some (l0, 10)) else ((api_Run_21.f k (([l0, (([(⟨a2_0, a2_1, a2_2, a2_3, a2_4, a2_5, a2_6, a2_7, a2_8⟩ : S25)] : List (S25)))] : List (List (S25))))).bind fun t130 => (some (t130, 0)))) = some (r1, r2) := by rw [if_pos rfl] at H; exact H
    clear H
    have H := H1
    clear H1
    by_cases c6 : (l0.length : Int) ≥ a1
    · rw [if_pos c6] at H
      have c6b0 : decide (a1 ≤ (l0.length : Int)) = true := decide_eq_true c6
      clear c6
      simp only [Option.some.injEq, Prod.mk.injEq] at H
      obtain ⟨rfl, rfl⟩ := H
      go_enter Try.func12, Try.ntmps12
      go_wp2_with (first | ((with_reducible refine gate_dst (N := 5) rfl ?_); refine box_event ?hg (N := 5) ?hd (cs := #[.int .i64 a2_0, .int .i64 a2_1, .int .u32 a2_2, .int .u32 a2_3, .int .u32 a2_4, .int .u32 a2_5, .int .u32 a2_6, .int .u32 a2_7, .int .i64 a2_8]) (t := 25) ?hr ?_; (case hd => rfl); (case hg => rfl); (case hr => first | (go_simp; done) | (go_simp; rfl)); intro gb122 hg w7 hbox hb; have n0_ := Aside0.mk (ve_ HO0.out gb122 hg hb); have n1_ := Aside0.mk (bs_ hb); have n2_ := Aside0.mk (hbox); have n4_ := Aside0.mk ((ge_ hg : w.heap.size ≤ gb122)); clear HO0 HB; have HO0 := n0_; have HB := n1_; have BK122 := n2_; have GE122 := n4_; clear n0_ n1_ n2_ n4_; clear hb hbox hg; have ⟨hcz8_0, hcz8_1, hcz8_2, hcz8_3, hcz8_4, hcz8_5, hcz8_6, hcz8_7, hcz8_8⟩ := cz9_ BK122.out; have ⟨hfz8_0, hfz8_1, hfz8_2, hfz8_3, hfz8_4, hfz8_5, hfz8_6, hfz8_7, hfz8_8⟩ := fz9_ BK122.out) | ((with_reducible refine gate_callee (f := 10) rfl ?_); refine goesL_ (some 10) rfl rfl Try.func10 (by kernel_rfl) rfl #[.agg #[.int .i64 a2_0, .int .i64 a2_1, .int .u32 a2_2, .int .u32 a2_3, .int .u32 a2_4, .int .u32 a2_5, .int .u32 a2_6, .int .u32 a2_7, .int .i64 a2_8]] rfl (by (try simp only [List.map_toArray, List.map_cons, List.map_nil]); first | done | rfl | (simp only [List.length_drop, List.length_take]; rfl)) ?_; (with_reducible refine (runs_May.calls a2_0 a2_1 a2_2 a2_3 a2_4 a2_5 a2_6 a2_7 a2_8 true _ A4.out).mono ?_); rintro e w9 ⟨rfl, hb⟩; refine ⟨_, rfl, ?_⟩; have n0_ := Aside0.mk (vb_ HO0.out hb); have n2_ := Aside0.mk (bs_ hb); clear HO0 BK122 HB; have HO0 := n0_; have HB := n2_; clear n0_ n2_; (try clear hb); (try clear hb2); (try clear hk); (try clear hi)))
      go_ret2
      exact ⟨_, by first | rfl | (simp [errW_none, errW_some] <;> rfl) | (simp [*, errW_none, errW_some] <;> rfl), fun h0_ => absurd h0_ (by first | decide | (first | exact c5 | (simp at *; done) | omega)), by repeat (first | (with_reducible first | exact HB.out | apply below_alloc | apply pw_below_drewN | apply below_drew1 | refine below_set ?_ GE122.out) | exact HB.out)⟩
    · rw [if_neg c6] at H
      have c6b0 : decide (a1 ≤ (l0.length : Int)) = false := decide_eq_false c6
      clear c6
      obtain ⟨y124, hy124⟩ : ∃ y_ : List (S25), y_ = (([(⟨a2_0, a2_1, a2_2, a2_3, a2_4, a2_5, a2_6, a2_7, a2_8⟩ : S25)] : List (S25))) := ⟨_, rfl⟩
      replace H : ((api_Run_21.f k (([l0, y124] : List (List (S25))))).bind fun t130 => (some (t130, 0))) = some (r1, r2) := by first | (rw [hy124]; with_reducible exact H) | (have H2_ := (Option.bind_some _ _).symm.trans H; rw [hy124]; with_reducible exact H2_) | (have H2_ := (Option.bind_some _ _).symm.trans H; with_reducible exact H2_) | with_reducible exact H | (rw [hy124]; exact H) | exact H
      have Ny124 := Aside0.mk hy124
      clear hy124
      obtain ⟨y127, hy127⟩ : ∃ y_ : List (List (S25)), y_ = (([l0, y124] : List (List (S25)))) := ⟨_, rfl⟩
      replace H : ((api_Run_21.f k y127).bind fun t130 => (some (t130, 0))) = some (r1, r2) := by first | (rw [hy127]; with_reducible exact H) | (have H2_ := (Option.bind_some _ _).symm.trans H; rw [hy127]; with_reducible exact H2_) | (have H2_ := (Option.bind_some _ _).symm.trans H; with_reducible exact H2_) | with_reducible exact H | (rw [hy127]; exact H) | exact H
      have Ny127 := Aside0.mk hy127
      clear hy127
      replace H := Option.bind_eq_some_iff.mp H
      obtain ⟨t130, A100, H⟩ := H
      replace H : (some (t130, 0)) = some (r1, r2) := H
      have A10 := Aside0.mk A100
      clear A100
      simp only [Option.some.injEq, Prod.mk.injEq] at H
      obtain ⟨rfl, rfl⟩ := H
      go_enter Try.func12, Try.ntmps12
      go_wp2_with (first | ((with_reducible refine gate_dst (N := 5) rfl ?_); refine box_event ?hg (N := 5) ?hd (cs := #[.int .i64 a2_0, .int .i64 a2_1, .int .u32 a2_2, .int .u32 a2_3, .int .u32 a2_4, .int .u32 a2_5, .int .u32 a2_6, .int .u32 a2_7, .int .i64 a2_8]) (t := 25) ?hr ?_; (case hd => rfl); (case hg => rfl); (case hr => first | (go_simp; done) | (go_simp; rfl)); intro gb122 hg w11 hbox hb; have n0_ := Aside0.mk (ve_ HO0.out gb122 hg hb); have n1_ := Aside0.mk (bs_ hb); have n2_ := Aside0.mk (hbox); have n4_ := Aside0.mk ((ge_ hg : w.heap.size ≤ gb122)); clear HO0 HB; have HO0 := n0_; have HB := n1_; have BK122 := n2_; have GE122 := n4_; clear n0_ n1_ n2_ n4_; clear hb hbox hg; have ⟨hcz12_0, hcz12_1, hcz12_2, hcz12_3, hcz12_4, hcz12_5, hcz12_6, hcz12_7, hcz12_8⟩ := cz9_ BK122.out; have ⟨hfz12_0, hfz12_1, hfz12_2, hfz12_3, hfz12_4, hfz12_5, hfz12_6, hfz12_7, hfz12_8⟩ := fz9_ BK122.out) | ((with_reducible refine gate_callee (f := 10) rfl ?_); refine goesL_ (some 10) rfl rfl Try.func10 (by kernel_rfl) rfl #[.agg #[.int .i64 a2_0, .int .i64 a2_1, .int .u32 a2_2, .int .u32 a2_3, .int .u32 a2_4, .int .u32 a2_5, .int .u32 a2_6, .int .u32 a2_7, .int .i64 a2_8]] rfl (by (try simp only [List.map_toArray, List.map_cons, List.map_nil]); first | done | rfl | (simp only [List.length_drop, List.length_take]; rfl)) ?_; (with_reducible refine (runs_May.calls a2_0 a2_1 a2_2 a2_3 a2_4 a2_5 a2_6 a2_7 a2_8 true _ A4.out).mono ?_); rintro e w13 ⟨rfl, hb⟩; refine ⟨_, rfl, ?_⟩; have n0_ := Aside0.mk (vb_ HO0.out hb); have n1_ := Aside0.mk (bb_ BK122.out hb); have n2_ := Aside0.mk (bs_ hb); clear HO0 BK122 HB; have HO0 := n0_; have BK122 := n1_; have HB := n2_; clear n0_ n1_ n2_; (try clear hb); (try clear hb2); (try clear hk); (try clear hi); have ⟨hcz14_0, hcz14_1, hcz14_2, hcz14_3, hcz14_4, hcz14_5, hcz14_6, hcz14_7, hcz14_8⟩ := cz9_ BK122.out; have ⟨hfz14_0, hfz14_1, hfz14_2, hfz14_3, hfz14_4, hfz14_5, hfz14_6, hfz14_7, hfz14_8⟩ := fz9_ BK122.out) | ((with_reducible refine gate_dst (N := 21) rfl ?_); refine Kd.R_lit k25 _ 25 ?hg (N := 21) ?hd (xs := ([(⟨a2_0, a2_1, a2_2, a2_3, a2_4, a2_5, a2_6, a2_7, a2_8⟩ : S25)] : List (S25))) (inner := [.int .i64 a2_0, .int .i64 a2_1, .int .u32 a2_2, .int .u32 a2_3, .int .u32 a2_4, .int .u32 a2_5, .int .u32 a2_6, .int .u32 a2_7, .int .i64 a2_8]) (ok := fun _ => True) (okp := fun _ => True) ?hr ?hp (fun _ hk => hk) trivial (Below.refl _ _) (Nat.le_refl _) (by simp) ?_; (case hd => rfl); (case hg => rfl); (case hr => first | (go_simp; done) | (go_simp; rfl)); (case hp => exact (Reps.c9 (show Kd.M k25 _ _ _ (⟨a2_0, a2_1, a2_2, a2_3, a2_4, a2_5, a2_6, a2_7, a2_8⟩ : S25) [.int .i64 a2_0, .int .i64 a2_1, .int .u32 a2_2, .int .u32 a2_3, .int .u32 a2_4, .int .u32 a2_5, .int .u32 a2_6, .int .u32 a2_7, .int .i64 a2_8] from (k25_mkM _ _ _ (⟨a2_0, a2_1, a2_2, a2_3, a2_4, a2_5, a2_6, a2_7, a2_8⟩ : S25) )) (Reps.none _ _))); intro v125 w15 ho16 hb hg_ hnew_; clear hg_ hnew_; (first | rw [← Ny124.out] at ho16 | (simp only [Int.reduceToNat] at ho16; rw [← Ny124.out] at ho16)); have n0_ := Aside0.mk (vf_ HO0.out (Kd.R_base ho16) hb); have n1_ := Aside0.mk (Kd.R_lower (Kd.R_newB (Kd.R_newM (M := fun k_ => (w.heap.size ≤ k_)) ho16 (below_size (by repeat (first | (with_reducible first | exact HB.out | apply below_alloc | apply pw_below_drewN | apply below_drew1 | refine below_set ?_ GE122.out) | exact HB.out))) (fun k_ h_ => h_)) (g := gb122) (o := .cells #[.int .i64 a2_0, .int .i64 a2_1, .int .u32 a2_2, .int .u32 a2_3, .int .u32 a2_4, .int .u32 a2_5, .int .u32 a2_6, .int .u32 a2_7, .int .i64 a2_8] 25 (0, 0)) (by (with_reducible repeat (first | refine blk_drewN ?_ _ | refine blk_drew ?_ | refine blk_alloc ?_ _)); exact BK122.out)) (below_size (by repeat (first | (with_reducible first | exact HB.out | apply below_alloc | apply pw_below_drewN | apply below_drew1 | refine below_set ?_ GE122.out) | exact HB.out)))); have n2_ := Aside0.mk (bb_ BK122.out hb); have n3_ := Aside0.mk (bs_ hb); clear HO0 BK122 HB; have HO0 := n0_; have HO126 := n1_; have BK122 := n2_; have HB := n3_; clear n0_ n1_ n2_ n3_; clear hb ho16; obtain ⟨Ao17, co17, eo17⟩ := Kd.R_slice HO126.out; subst eo17) | ((with_reducible refine gate_dst (N := 22) rfl ?_); refine Kd.N_lit (Kd.slice 25 k25) _ 22 ?hg (N' := 22) ?hd (xs := ([l0, y124] : List (List (S25)))) (inner := [.slice A0 l0.length c0, .slice Ao17 y124.length co17]) (ok := (fun k_ => (P0_ k_ ∨ w.heap.size ≤ k_) ∧ k_ ≠ gb122)) (okp := (fun k_ => (P0_ k_ ∨ w.heap.size ≤ k_) ∧ k_ ≠ gb122)) ?hr ?hp (fun _ hk => hk) ((show ∀ k_, w15.heap.size ≤ k_ → (fun k_ => (P0_ k_ ∨ w.heap.size ≤ k_) ∧ k_ ≠ gb122) k_ from fun k_ hk => ⟨(.inr (Nat.le_trans (below_size (by repeat (first | (with_reducible first | exact HB.out | apply below_alloc | apply pw_below_drewN | apply below_drew1 | refine below_set ?_ GE122.out) | exact HB.out))) hk)), fb_ BK122.out k_ hk⟩) _ (Nat.le_refl _)) (Below.refl _ _) (Nat.le_refl _) (by simp) ?_; (case hd => rfl); (case hg => rfl); (case hr => first | (go_simp; done) | (go_simp; rfl)); (case hp => exact (Reps.one (show Kd.FK (Kd.slice 25 k25) _ _ l0 [.slice A0 l0.length c0] from (Kd.FK_slice_mk (Kd.V_reads' (Kd.V_mono (ok' := (fun k_ => (P0_ k_ ∨ w.heap.size ≤ k_) ∧ k_ ≠ gb122)) (HO0.out) (fun k_ hk => ⟨hk.1.1, hk.1.2⟩))).2.1 (Kd.V_F (Kd.V_mono (ok' := (fun k_ => (P0_ k_ ∨ w.heap.size ≤ k_) ∧ k_ ≠ gb122)) (HO0.out) (fun k_ hk => ⟨hk.1.1, hk.1.2⟩))))) (Reps.one (show Kd.FK (Kd.slice 25 k25) _ _ y124 [.slice Ao17 y124.length co17] from (Kd.FK_slice_mk (Kd.R_reads' (Kd.R_mono (ok' := (fun k_ => (P0_ k_ ∨ w.heap.size ≤ k_) ∧ k_ ≠ gb122)) (HO126.out) (fun k_ hk => ⟨(.inr (hk.1.1)), hk.2⟩))).2.1 (Kd.R_F (Kd.R_mono (ok' := (fun k_ => (P0_ k_ ∨ w.heap.size ≤ k_) ∧ k_ ≠ gb122)) (HO126.out) (fun k_ hk => ⟨(.inr (hk.1.1)), hk.2⟩))))) (Reps.none _ _)))); intro v128 w18 ho19 hb hg_ hnew_; clear hg_ hnew_; (first | rw [← Ny127.out] at ho19 | (simp only [Int.reduceToNat] at ho19; rw [← Ny127.out] at ho19)); have n1_ := Aside0.mk (Kd.N_lower ho19 (below_size (by repeat (first | (with_reducible first | exact HB.out | apply below_alloc | apply pw_below_drewN | apply below_drew1 | refine below_set ?_ GE122.out) | exact HB.out)))); have n2_ := Aside0.mk (bb_ BK122.out hb); have n3_ := Aside0.mk (bs_ hb); clear HO0 BK122 HB HO126; have HO129 := n1_; have BK122 := n2_; have HB := n3_; clear n1_ n2_ n3_; clear hb ho19; obtain ⟨Ao20, co20, eo20⟩ := Kd.N_slice HO129.out; subst eo20) | ((with_reducible refine gate_callee (f := 21) rfl ?_); refine goesL_ (some 23) rfl rfl Try.func21 (by kernel_rfl) rfl #[.slice Ao20 y127.length co20] rfl (by (try simp only [List.map_toArray, List.map_cons, List.map_nil]); first | done | rfl | (simp only [List.length_drop, List.length_take]; rfl)) ?_; (with_reducible refine (api_Run_21.calls k _ _ y127 t130 _ ?side1 ?side2 A10.out).mono ?_); (case side1 => repeat (first | exact (Kd.N_reads' HO129.out).2.2 | (with_reducible refine Kd.C_alloc ?_ _) | (with_reducible refine Kd.C_drewN ?_ _) | (with_reducible refine Kd.C_drew ?_))); (case side2 => exact (Kd.N_reads' HO129.out).2.1); rintro e w21 ⟨v131, rfl, ho0, hb⟩; refine ⟨_, rfl, ?_⟩; have n2_ := Aside0.mk (Kd.R_lower (Kd.R_newB (Kd.R_newM (M := fun k_ => (w.heap.size ≤ k_)) ho0 (below_size (by repeat (first | (with_reducible first | exact HB.out | apply below_alloc | apply pw_below_drewN | apply below_drew1 | refine below_set ?_ GE122.out) | exact HB.out))) (fun k_ h_ => h_)) (g := gb122) (o := .cells #[.int .i64 a2_0, .int .i64 a2_1, .int .u32 a2_2, .int .u32 a2_3, .int .u32 a2_4, .int .u32 a2_5, .int .u32 a2_6, .int .u32 a2_7, .int .i64 a2_8] 25 (0, 0)) (by (with_reducible repeat (first | refine blk_drewN ?_ _ | refine blk_drew ?_ | refine blk_alloc ?_ _)); exact BK122.out)) (below_size (by repeat (first | (with_reducible first | exact HB.out | apply below_alloc | apply pw_below_drewN | apply below_drew1 | refine below_set ?_ GE122.out) | exact HB.out)))); have n4_ := Aside0.mk (bs_ hb); clear HO129 BK122 HB; have HO132 := n2_; have HB := n4_; clear n2_ n4_; (try clear hb); (try clear hb2); (try clear hk); (try clear hi); (try clear ho0)))
      go_ret2
      exact ⟨_, by first | rfl | (simp [errW_none, errW_some] <;> rfl) | (simp [*, errW_none, errW_some] <;> rfl), fun _ => Kd.V_mono (Kd.R_V (by (with_reducible repeat (first | apply Kd.R_alloc | apply Kd.R_drewN | apply Kd.R_drew)); exact HO132.out)) (fun k_ hk => by first | exact hk | exact hk.1 | exact hk.1.1), by repeat (first | (with_reducible first | exact HB.out | apply below_alloc | apply pw_below_drewN | apply below_drew1 | refine below_set ?_ GE122.out) | exact HB.out)⟩
  · replace c5 := Bool.eq_false_iff.mpr c5
    subst c5
    have H1 : (some (l0, 1)) = some (r1, r2) := by rw [if_neg (show ¬ (false = true) by decide)] at H; exact H
    clear H
    have H := H1
    clear H1
    simp only [Option.some.injEq, Prod.mk.injEq] at H
    obtain ⟨rfl, rfl⟩ := H
    go_enter Try.func12, Try.ntmps12
    go_wp2_with (first | ((with_reducible refine gate_dst (N := 5) rfl ?_); refine box_event ?hg (N := 5) ?hd (cs := #[.int .i64 a2_0, .int .i64 a2_1, .int .u32 a2_2, .int .u32 a2_3, .int .u32 a2_4, .int .u32 a2_5, .int .u32 a2_6, .int .u32 a2_7, .int .i64 a2_8]) (t := 25) ?hr ?_; (case hd => rfl); (case hg => rfl); (case hr => first | (go_simp; done) | (go_simp; rfl)); intro gb122 hg w22 hbox hb; have n0_ := Aside0.mk (ve_ HO0.out gb122 hg hb); have n1_ := Aside0.mk (bs_ hb); have n2_ := Aside0.mk (hbox); have n4_ := Aside0.mk ((ge_ hg : w.heap.size ≤ gb122)); clear HO0 HB; have HO0 := n0_; have HB := n1_; have BK122 := n2_; have GE122 := n4_; clear n0_ n1_ n2_ n4_; clear hb hbox hg; have ⟨hcz23_0, hcz23_1, hcz23_2, hcz23_3, hcz23_4, hcz23_5, hcz23_6, hcz23_7, hcz23_8⟩ := cz9_ BK122.out; have ⟨hfz23_0, hfz23_1, hfz23_2, hfz23_3, hfz23_4, hfz23_5, hfz23_6, hfz23_7, hfz23_8⟩ := fz9_ BK122.out) | ((with_reducible refine gate_callee (f := 10) rfl ?_); refine goesL_ (some 10) rfl rfl Try.func10 (by kernel_rfl) rfl #[.agg #[.int .i64 a2_0, .int .i64 a2_1, .int .u32 a2_2, .int .u32 a2_3, .int .u32 a2_4, .int .u32 a2_5, .int .u32 a2_6, .int .u32 a2_7, .int .i64 a2_8]] rfl (by (try simp only [List.map_toArray, List.map_cons, List.map_nil]); first | done | rfl | (simp only [List.length_drop, List.length_take]; rfl)) ?_; (with_reducible refine (runs_May.calls a2_0 a2_1 a2_2 a2_3 a2_4 a2_5 a2_6 a2_7 a2_8 false _ A4.out).mono ?_); rintro e w24 ⟨rfl, hb⟩; refine ⟨_, rfl, ?_⟩; have n0_ := Aside0.mk (vb_ HO0.out hb); have n2_ := Aside0.mk (bs_ hb); clear HO0 BK122 HB; have HO0 := n0_; have HB := n2_; clear n0_ n2_; (try clear hb); (try clear hb2); (try clear hk); (try clear hi)))
    go_ret2
    exact ⟨_, by first | rfl | (simp [errW_none, errW_some] <;> rfl) | (simp [*, errW_none, errW_some] <;> rfl), fun h0_ => absurd h0_ (by first | decide | (first | exact c5 | (simp at *; done) | omega)), by repeat (first | (with_reducible first | exact HB.out | apply below_alloc | apply pw_below_drewN | apply below_drew1 | refine below_set ?_ GE122.out) | exact HB.out)⟩
set_option maxHeartbeats 8000000 in
set_option maxRecDepth 100000 in
theorem runs_Set.new (P0_ : Nat → Prop) (A0 : Option Addr) (c0 : Nat) (l0 : List (S25)) (a1 : Int) (a2_0 : Int) (a2_1 : Int) (a2_2 : Int) (a2_3 : Int) (a2_4 : Int) (a2_5 : Int) (a2_6 : Int) (a2_7 : Int) (a2_8 : Int) (r1 : List (S25)) (r2 : Int) (w : World) (hs0 : Kd.V k25 25 w w.heap.size (fun k_ => P0_ k_) (.slice A0 l0.length c0) l0) (h : runs_Set.f l0 a1 a2_0 a2_1 a2_2 a2_3 a2_4 a2_5 a2_6 a2_7 a2_8 = some (r1, r2)) :
    Calls Try.prog 14 #[.slice A0 l0.length c0, .int .i64 a1, .agg #[.int .i64 a2_0, .int .i64 a2_1, .int .u32 a2_2, .int .u32 a2_3, .int .u32 a2_4, .int .u32 a2_5, .int .u32 a2_6, .int .u32 a2_7, .int .i64 a2_8]] w fun e w' => ∃ v0_ : Value, e = .returned (.tuple #[v0_, .int .i64 r2]) ∧ (r2 = 0 → Kd.V k25 25 w' w.heap.size (fun k_ => w.heap.size ≤ k_) v0_ r1) ∧ Below w.heap.size w w' := by
  have hu25 := Try.underlying25
  have HO0 := Aside0.mk (show Kd.V k25 25 w w.heap.size (fun k_ => (P0_ k_ ∨ w.heap.size ≤ k_)) (.slice A0 l0.length c0) l0 from Kd.V_mono hs0 (fun k_ hk => .inl hk))
  have HB := Aside0.mk (Below.refl w.heap.size w)
  have H : (if a1 < 0 then (some (l0, 1)) else (if a1 ≥ (l0.length : Int) then (some (l0, 1)) else ((runs_May.f a2_0 a2_1 a2_2 a2_3 a2_4 a2_5 a2_6 a2_7 a2_8).bind fun t140 => (if t140 = true then ((api_Run_22.f l0).bind fun t141 => (if 0 ≤ a1 then (if a1 < (t141.length : Int) then (some ((t141.set (a1 : Int).toNat (⟨a2_0, a2_1, a2_2, a2_3, a2_4, a2_5, a2_6, a2_7, a2_8⟩ : S25)), 0)) else (none)) else (none))) else (some (l0, 1)))))) = some (r1, r2) := h
  clear h
  by_cases c4 : a1 < 0
  · rw [if_pos c4] at H
    have c4b0 : decide (a1 < 0) = true := decide_eq_true c4
    clear c4
    simp only [Option.some.injEq, Prod.mk.injEq] at H
    obtain ⟨rfl, rfl⟩ := H
    go_enter Try.func14, Try.ntmps14
    go_wp2_with (first | ((with_reducible refine gate_dst (N := 5) rfl ?_); (try (refine gate_guard (by rfl) ?_; dsimp only)); refine box_event ?hg (N := 5) ?hd (cs := #[.int .i64 a2_0, .int .i64 a2_1, .int .u32 a2_2, .int .u32 a2_3, .int .u32 a2_4, .int .u32 a2_5, .int .u32 a2_6, .int .u32 a2_7, .int .i64 a2_8]) (t := 25) ?hr ?_; (case hd => rfl); (case hg => rfl); (case hr => first | (go_simp; done) | (go_simp; rfl)); intro gb139 hg w5 hbox hb; have n0_ := Aside0.mk (ve_ HO0.out gb139 hg hb); have n1_ := Aside0.mk (bs_ hb); have n4_ := Aside0.mk ((ge_ hg : w.heap.size ≤ gb139)); clear HO0 HB; have HO0 := n0_; have HB := n1_; have GE139 := n4_; clear n0_ n1_ n4_; clear hb hbox hg))
    go_ret2
    exact ⟨_, by first | rfl | (simp [errW_none, errW_some] <;> rfl) | (simp [*, errW_none, errW_some] <;> rfl), fun h0_ => absurd h0_ (by first | decide | (first | exact c5 | (simp at *; done) | omega)), by repeat (first | (with_reducible first | exact HB.out | apply below_alloc | apply pw_below_drewN | apply below_drew1 | refine below_set ?_ GE139.out) | exact HB.out)⟩
  · rw [if_neg c4] at H
    have c4b0 : decide (a1 < 0) = false := decide_eq_false c4
    clear c4
    by_cases c6 : a1 ≥ (l0.length : Int)
    · rw [if_pos c6] at H
      have c6b0 : decide ((l0.length : Int) ≤ a1) = true := decide_eq_true c6
      clear c6
      simp only [Option.some.injEq, Prod.mk.injEq] at H
      obtain ⟨rfl, rfl⟩ := H
      go_enter Try.func14, Try.ntmps14
      go_wp2_with (first | ((with_reducible refine gate_dst (N := 5) rfl ?_); (try (refine gate_guard (by rfl) ?_; dsimp only)); refine box_event ?hg (N := 5) ?hd (cs := #[.int .i64 a2_0, .int .i64 a2_1, .int .u32 a2_2, .int .u32 a2_3, .int .u32 a2_4, .int .u32 a2_5, .int .u32 a2_6, .int .u32 a2_7, .int .i64 a2_8]) (t := 25) ?hr ?_; (case hd => rfl); (case hg => rfl); (case hr => first | (go_simp; done) | (go_simp; rfl)); intro gb139 hg w7 hbox hb; have n0_ := Aside0.mk (ve_ HO0.out gb139 hg hb); have n1_ := Aside0.mk (bs_ hb); have n4_ := Aside0.mk ((ge_ hg : w.heap.size ≤ gb139)); clear HO0 HB; have HO0 := n0_; have HB := n1_; have GE139 := n4_; clear n0_ n1_ n4_; clear hb hbox hg))
      go_ret2
      exact ⟨_, by first | rfl | (simp [errW_none, errW_some] <;> rfl) | (simp [*, errW_none, errW_some] <;> rfl), fun h0_ => absurd h0_ (by first | decide | (first | exact c5 | (simp at *; done) | omega)), by repeat (first | (with_reducible first | exact HB.out | apply below_alloc | apply pw_below_drewN | apply below_drew1 | refine below_set ?_ GE139.out) | exact HB.out)⟩
    · rw [if_neg c6] at H
      have c6b0 : decide ((l0.length : Int) ≤ a1) = false := decide_eq_false c6
      clear c6
      replace H := Option.bind_eq_some_iff.mp H
      obtain ⟨t140, A80, H⟩ := H
      replace H : (if t140 = true then ((api_Run_22.f l0).bind fun t141 => (if 0 ≤ a1 then (if a1 < (t141.length : Int) then (some ((t141.set (a1 : Int).toNat (⟨a2_0, a2_1, a2_2, a2_3, a2_4, a2_5, a2_6, a2_7, a2_8⟩ : S25)), 0)) else (none)) else (none))) else (some (l0, 1))) = some (r1, r2) := H
      have A8 := Aside0.mk A80
      clear A80
      by_cases c9 : t140 = true
      · subst c9
        have H1 : ((api_Run_22.f l0).bind fun t141 => (if 0 ≤ a1 then (if a1 < (t141.length : Int) then (some ((t141.set (a1 : Int).toNat (⟨a2_0, a2_1, a2_2, a2_3, a2_4, a2_5, a2_6, a2_7, a2_8⟩ : S25)), 0)) else (none)) else (none))) = some (r1, r2) := by rw [if_pos rfl] at H; exact H
        clear H
        have H := H1
        clear H1
        replace H := Option.bind_eq_some_iff.mp H
        obtain ⟨t141, A100, H⟩ := H
        replace H : (if 0 ≤ a1 then (if a1 < (t141.length : Int) then (some ((t141.set (a1 : Int).toNat (⟨a2_0, a2_1, a2_2, a2_3, a2_4, a2_5, a2_6, a2_7, a2_8⟩ : S25)), 0)) else (none)) else (none)) = some (r1, r2) := H
        have A10 := Aside0.mk A100
        clear A100
        by_cases c11 : 0 ≤ a1
        · rw [if_pos c11] at H
          have c11b0 : decide (0 ≤ a1) = true := decide_eq_true c11
          clear c11
          by_cases c12 : a1 < (t141.length : Int)
          · rw [if_pos c12] at H
            have c12b0 : decide (a1 < (t141.length : Int)) = true := decide_eq_true c12
            clear c12
            obtain ⟨y144, hy144⟩ : ∃ y_ : List (S25), y_ = (t141.set (a1 : Int).toNat (⟨a2_0, a2_1, a2_2, a2_3, a2_4, a2_5, a2_6, a2_7, a2_8⟩ : S25)) := ⟨_, rfl⟩
            replace H : (some (y144, 0)) = some (r1, r2) := by first | (rw [hy144]; with_reducible exact H) | (have H2_ := (Option.bind_some _ _).symm.trans H; rw [hy144]; with_reducible exact H2_) | (have H2_ := (Option.bind_some _ _).symm.trans H; with_reducible exact H2_) | with_reducible exact H | (rw [hy144]; exact H) | exact H
            have Ny144 := Aside0.mk hy144
            clear hy144
            simp only [Option.some.injEq, Prod.mk.injEq] at H
            obtain ⟨rfl, rfl⟩ := H
            go_enter Try.func14, Try.ntmps14
            go_wp2_with (first | ((with_reducible refine gate_dst (N := 5) rfl ?_); (try (refine gate_guard (by rfl) ?_; dsimp only)); refine box_event ?hg (N := 5) ?hd (cs := #[.int .i64 a2_0, .int .i64 a2_1, .int .u32 a2_2, .int .u32 a2_3, .int .u32 a2_4, .int .u32 a2_5, .int .u32 a2_6, .int .u32 a2_7, .int .i64 a2_8]) (t := 25) ?hr ?_; (case hd => rfl); (case hg => rfl); (case hr => first | (go_simp; done) | (go_simp; rfl)); intro gb139 hg w14 hbox hb; have n0_ := Aside0.mk (ve_ HO0.out gb139 hg hb); have n1_ := Aside0.mk (bs_ hb); have n2_ := Aside0.mk (hbox); have n4_ := Aside0.mk ((ge_ hg : w.heap.size ≤ gb139)); clear HO0 HB; have HO0 := n0_; have HB := n1_; have BK139 := n2_; have GE139 := n4_; clear n0_ n1_ n2_ n4_; clear hb hbox hg; have ⟨hcz15_0, hcz15_1, hcz15_2, hcz15_3, hcz15_4, hcz15_5, hcz15_6, hcz15_7, hcz15_8⟩ := cz9_ BK139.out; have ⟨hfz15_0, hfz15_1, hfz15_2, hfz15_3, hfz15_4, hfz15_5, hfz15_6, hfz15_7, hfz15_8⟩ := fz9_ BK139.out) | (go_at_call 10; (with_reducible refine (runs_May.calls a2_0 a2_1 a2_2 a2_3 a2_4 a2_5 a2_6 a2_7 a2_8 true _ A8.out).mono ?_); rintro e w16 ⟨rfl, hb⟩; have n0_ := Aside0.mk (vb_ HO0.out hb); have n1_ := Aside0.mk (bb_ BK139.out hb); have n2_ := Aside0.mk (bs_ hb); clear HO0 BK139 HB; have HO0 := n0_; have BK139 := n1_; have HB := n2_; clear n0_ n1_ n2_; (try clear hb); (try clear hb2); (try clear hk); (try clear hi)) | ((with_reducible refine gate_callee (f := 22) rfl ?_); refine goesL_ (some 24) rfl rfl Try.func22 (by kernel_rfl) rfl #[.slice A0 l0.length c0] rfl (by (try simp only [List.map_toArray, List.map_cons, List.map_nil]); first | done | rfl | (simp only [List.length_drop, List.length_take]; rfl)) ?_; (with_reducible refine (api_Run_22.calls _ _ l0 t141 _ ?side1 ?side2 A10.out).mono ?_); (case side1 => repeat (first | exact (Kd.V_reads' HO0.out).2.2 | (with_reducible refine Kd.C_alloc ?_ _) | (with_reducible refine Kd.C_drewN ?_ _) | (with_reducible refine Kd.C_drew ?_))); (case side2 => exact (Kd.V_reads' HO0.out).2.1); rintro e w17 ⟨v142, rfl, ho0, hb⟩; refine ⟨_, rfl, ?_⟩; have n1_ := Aside0.mk (Kd.R_lower (Kd.R_newB (Kd.R_newM (M := fun k_ => (w.heap.size ≤ k_)) ho0 (below_size (by repeat (first | (with_reducible first | exact HB.out | apply below_alloc | apply pw_below_drewN | apply below_drew1 | refine below_set ?_ GE139.out) | exact HB.out))) (fun k_ h_ => h_)) (g := gb139) (o := .cells #[.int .i64 a2_0, .int .i64 a2_1, .int .u32 a2_2, .int .u32 a2_3, .int .u32 a2_4, .int .u32 a2_5, .int .u32 a2_6, .int .u32 a2_7, .int .i64 a2_8] 25 (0, 0)) (by (with_reducible repeat (first | refine blk_drewN ?_ _ | refine blk_drew ?_ | refine blk_alloc ?_ _)); exact BK139.out)) (below_size (by repeat (first | (with_reducible first | exact HB.out | apply below_alloc | apply pw_below_drewN | apply below_drew1 | refine below_set ?_ GE139.out) | exact HB.out)))); have n2_ := Aside0.mk (bb_ BK139.out hb); have n3_ := Aside0.mk (bs_ hb); clear HO0 BK139 HB; have HO143 := n1_; have BK139 := n2_; have HB := n3_; clear n1_ n2_ n3_; (try clear hb); (try clear hb2); (try clear hk); (try clear hi); (try clear ho0); have ⟨hcz18_0, hcz18_1, hcz18_2, hcz18_3, hcz18_4, hcz18_5, hcz18_6, hcz18_7, hcz18_8⟩ := cz9_ BK139.out; have ⟨hfz18_0, hfz18_1, hfz18_2, hfz18_3, hfz18_4, hfz18_5, hfz18_6, hfz18_7, hfz18_8⟩ := fz9_ BK139.out; have p13 : 0 ≤ (a1 : Int) := of_decide_eq_true (by first | (with_reducible assumption) | assumption); have q13 : (a1 : Int) < ((t141.length : Int) : Int) := of_decide_eq_true (by first | (with_reducible assumption) | assumption); obtain ⟨go13, co13, eo13, gb13, gl13, cl13, HG13⟩ := Kd.R_form HO143.out (by omega); (first | cases eo13 | (injection eo13 with ea_ en_ ec_; (first | subst ea_ | (injection ea_ with ea_; subst ea_)); subst ec_; clear en_)); have GB13 := Aside0.mk gb13; have GG13 := Aside0.mk HG13; clear gb13 gl13 HG13; obtain ⟨ce13, hcl13, hM13, hcc13, hfr13⟩ := Kd.R_elem HO143.out z25 (a1 : Int) p13 q13; obtain rfl := k25_openM hM13; have hx13_0 : w17.cell? ⟨go13, (a1 : Int).toNat * 9, none⟩ = some (.int .i64 ((rd_T25 t141 a1).f0)) := hcc13 0 _ rfl; have hx13_1 : w17.cell? ⟨go13, (a1 : Int).toNat * 9 + 1, none⟩ = some (.int .i64 ((rd_T25 t141 a1).f1)) := hcc13 1 _ rfl; have hx13_2 : w17.cell? ⟨go13, (a1 : Int).toNat * 9 + 2, none⟩ = some (.int .u32 ((rd_T25 t141 a1).f2)) := hcc13 2 _ rfl; have hx13_3 : w17.cell? ⟨go13, (a1 : Int).toNat * 9 + 3, none⟩ = some (.int .u32 ((rd_T25 t141 a1).f3)) := hcc13 3 _ rfl; have hx13_4 : w17.cell? ⟨go13, (a1 : Int).toNat * 9 + 4, none⟩ = some (.int .u32 ((rd_T25 t141 a1).f4)) := hcc13 4 _ rfl; have hx13_5 : w17.cell? ⟨go13, (a1 : Int).toNat * 9 + 5, none⟩ = some (.int .u32 ((rd_T25 t141 a1).f5)) := hcc13 5 _ rfl; have hx13_6 : w17.cell? ⟨go13, (a1 : Int).toNat * 9 + 6, none⟩ = some (.int .u32 ((rd_T25 t141 a1).f6)) := hcc13 6 _ rfl; have hx13_7 : w17.cell? ⟨go13, (a1 : Int).toNat * 9 + 7, none⟩ = some (.int .u32 ((rd_T25 t141 a1).f7)) := hcc13 7 _ rfl; have hx13_8 : w17.cell? ⟨go13, (a1 : Int).toNat * 9 + 8, none⟩ = some (.int .i64 ((rd_T25 t141 a1).f8)) := hcc13 8 _ rfl; have hf13_0 : w17.frozen? ⟨go13, (a1 : Int).toNat * 9, none⟩ = false := hfr13 0; have hf13_1 : w17.frozen? ⟨go13, (a1 : Int).toNat * 9 + 1, none⟩ = false := hfr13 1; have hf13_2 : w17.frozen? ⟨go13, (a1 : Int).toNat * 9 + 2, none⟩ = false := hfr13 2; have hf13_3 : w17.frozen? ⟨go13, (a1 : Int).toNat * 9 + 3, none⟩ = false := hfr13 3; have hf13_4 : w17.frozen? ⟨go13, (a1 : Int).toNat * 9 + 4, none⟩ = false := hfr13 4; have hf13_5 : w17.frozen? ⟨go13, (a1 : Int).toNat * 9 + 5, none⟩ = false := hfr13 5; have hf13_6 : w17.frozen? ⟨go13, (a1 : Int).toNat * 9 + 6, none⟩ = false := hfr13 6; have hf13_7 : w17.frozen? ⟨go13, (a1 : Int).toNat * 9 + 7, none⟩ = false := hfr13 7; have hf13_8 : w17.frozen? ⟨go13, (a1 : Int).toNat * 9 + 8, none⟩ = false := hfr13 8; clear hcl13 hcc13 hfr13 hM13; replace p13 := eq_true p13; replace q13 := eq_true q13; have n_ := Aside0.mk (Kd.R_mono (ok' := (fun k_ => (w.heap.size ≤ k_) ∧ k_ ≠ gb139)) HO143.out (fun k_ hk => ⟨hk.1.1, hk.2⟩)); clear HO143; have HO143 := n_; clear n_; have HX19 := Aside0.mk (show Kd.R k25 25 w17 w.heap.size (fun k_ => (w.heap.size ≤ k_) ∧ k_ ≠ gb139) (.slice (some ⟨go13, 0, none⟩) t141.length co13) t141 from (by (with_reducible repeat (first | apply Kd.R_alloc | apply Kd.R_drewN | apply Kd.R_drew)); exact HO143.out)); obtain ⟨ce19, hcl19, hM19, hcc19, hfr19⟩ := Kd.R_elem HX19.out z25 (a1 : Int) (of_decide_eq_true (by first | (with_reducible assumption) | assumption)) (by have h_ : (a1 : Int) < ((t141.length : Int) : Int) := of_decide_eq_true (by first | (with_reducible assumption) | assumption); first | exact h_ | (have e_ := (Kd.R_reads' HO143.out).1; omega) | simpa using h_); obtain rfl := k25_openM hM19; have HP19 := Kd.R_seg HX19.out (a1 : Int) (of_decide_eq_true (by first | (with_reducible assumption) | assumption)) (by have h_ : (a1 : Int) < ((t141.length : Int) : Int) := of_decide_eq_true (by first | (with_reducible assumption) | assumption); first | exact h_ | (have e_ := (Kd.R_reads' HO143.out).1; omega) | simpa using h_) (seg := [.int .i64 a2_0, .int .i64 a2_1, .int .u32 a2_2, .int .u32 a2_3, .int .u32 a2_4, .int .u32 a2_5, .int .u32 a2_6, .int .u32 a2_7, .int .i64 a2_8]) (j := 0) hcl19 hcc19 (show 9 ≤ 9 from by decide) (x' := (⟨a2_0, a2_1, a2_2, a2_3, a2_4, a2_5, a2_6, a2_7, a2_8⟩ : S25)) (k25_mkM _ _ _ (⟨a2_0, a2_1, a2_2, a2_3, a2_4, a2_5, a2_6, a2_7, a2_8⟩ : S25) ) (fun _ hk => hk); have hx19_0 := hcc19 0 _ rfl; (try simp only [show (k25).sz = 9 from rfl, Nat.mul_one, Nat.add_zero] at hx19_0); have hf19_0 := hfr19 0; (try simp only [show (k25).sz = 9 from rfl, Nat.mul_one, Nat.add_zero] at hf19_0); have hx19_1 := hcc19 1 _ rfl; (try simp only [show (k25).sz = 9 from rfl, Nat.mul_one, Nat.add_zero] at hx19_1); have hf19_1 := hfr19 1; (try simp only [show (k25).sz = 9 from rfl, Nat.mul_one, Nat.add_zero] at hf19_1); have hx19_2 := hcc19 2 _ rfl; (try simp only [show (k25).sz = 9 from rfl, Nat.mul_one, Nat.add_zero] at hx19_2); have hf19_2 := hfr19 2; (try simp only [show (k25).sz = 9 from rfl, Nat.mul_one, Nat.add_zero] at hf19_2); have hx19_3 := hcc19 3 _ rfl; (try simp only [show (k25).sz = 9 from rfl, Nat.mul_one, Nat.add_zero] at hx19_3); have hf19_3 := hfr19 3; (try simp only [show (k25).sz = 9 from rfl, Nat.mul_one, Nat.add_zero] at hf19_3); have hx19_4 := hcc19 4 _ rfl; (try simp only [show (k25).sz = 9 from rfl, Nat.mul_one, Nat.add_zero] at hx19_4); have hf19_4 := hfr19 4; (try simp only [show (k25).sz = 9 from rfl, Nat.mul_one, Nat.add_zero] at hf19_4); have hx19_5 := hcc19 5 _ rfl; (try simp only [show (k25).sz = 9 from rfl, Nat.mul_one, Nat.add_zero] at hx19_5); have hf19_5 := hfr19 5; (try simp only [show (k25).sz = 9 from rfl, Nat.mul_one, Nat.add_zero] at hf19_5); have hx19_6 := hcc19 6 _ rfl; (try simp only [show (k25).sz = 9 from rfl, Nat.mul_one, Nat.add_zero] at hx19_6); have hf19_6 := hfr19 6; (try simp only [show (k25).sz = 9 from rfl, Nat.mul_one, Nat.add_zero] at hf19_6); have hx19_7 := hcc19 7 _ rfl; (try simp only [show (k25).sz = 9 from rfl, Nat.mul_one, Nat.add_zero] at hx19_7); have hf19_7 := hfr19 7; (try simp only [show (k25).sz = 9 from rfl, Nat.mul_one, Nat.add_zero] at hf19_7); have hx19_8 := hcc19 8 _ rfl; (try simp only [show (k25).sz = 9 from rfl, Nat.mul_one, Nat.add_zero] at hx19_8); have hf19_8 := hfr19 8; (try simp only [show (k25).sz = 9 from rfl, Nat.mul_one, Nat.add_zero] at hf19_8); clear hcl19 hcc19 hfr19 hM19) | ((with_reducible refine gate_store (t := 25) (p := 28) rfl ?_); refine store_event (t := 25) (p := 28) (v := ?vo_w20) (w1 := (((((((((w17.setCell ⟨go13, (a1 : Int).toNat * 9, none⟩ (.int .i64 a2_0)).setCell ⟨go13, (a1 : Int).toNat * 9 + 1, none⟩ (.int .i64 a2_1)).setCell ⟨go13, (a1 : Int).toNat * 9 + 2, none⟩ (.int .u32 a2_2)).setCell ⟨go13, (a1 : Int).toNat * 9 + 3, none⟩ (.int .u32 a2_3)).setCell ⟨go13, (a1 : Int).toNat * 9 + 4, none⟩ (.int .u32 a2_4)).setCell ⟨go13, (a1 : Int).toNat * 9 + 5, none⟩ (.int .u32 a2_5)).setCell ⟨go13, (a1 : Int).toNat * 9 + 6, none⟩ (.int .u32 a2_6)).setCell ⟨go13, (a1 : Int).toNat * 9 + 7, none⟩ (.int .u32 a2_7)).setCell ⟨go13, (a1 : Int).toNat * 9 + 8, none⟩ (.int .i64 a2_8))) ?hg ?ho ?hn ?hr ?_; (case ho => rfl); (case hg => rfl); (case hn => rfl); (case hr => first | (go_simp; done) | (go_simp; rfl)); intro w20 hw; have hg : w17.grownBy w20 (some go13) := (by rw [hw]; exact HP19.2); have hp_ : Kd.R k25 25 w20 w.heap.size (fun k_ => (w.heap.size ≤ k_) ∧ k_ ≠ gb139) (.slice (some ⟨go13, 0, none⟩) t141.length co13) y144 := (by rw [hw, Ny144.out]; exact HP19.1); clear HP19; have n2_ := Aside0.mk (hp_); have n3_ := Aside0.mk ((by rw [hw]; exact below_set (below_set (below_set (below_set (below_set (below_set (below_set (below_set (below_set (HB.out) GB13.out) GB13.out) GB13.out) GB13.out) GB13.out) GB13.out) GB13.out) GB13.out) GB13.out : Below w.heap.size w w20)); clear BK139 HO143 HB; have HO143 := n2_; have HB := n3_; clear n2_ n3_; clear hg hw hp_))
            go_ret2
            exact ⟨_, by first | rfl | (simp [errW_none, errW_some] <;> rfl) | (simp [*, errW_none, errW_some] <;> rfl), fun _ => Kd.V_mono (Kd.R_V (by (with_reducible repeat (first | apply Kd.R_alloc | apply Kd.R_drewN | apply Kd.R_drew)); exact HO143.out)) (fun k_ hk => by first | exact hk | exact hk.1 | exact hk.1.1), by repeat (first | (with_reducible first | exact HB.out | apply below_alloc | apply pw_below_drewN | apply below_drew1 | refine below_set ?_ GE139.out) | exact HB.out)⟩
          · rw [if_neg c12] at H
            exact absurd H (by simp)
        · rw [if_neg c11] at H
          exact absurd H (by simp)
      · replace c9 := Bool.eq_false_iff.mpr c9
        subst c9
        have H1 : (some (l0, 1)) = some (r1, r2) := by rw [if_neg (show ¬ (false = true) by decide)] at H; exact H
        clear H
        have H := H1
        clear H1
        simp only [Option.some.injEq, Prod.mk.injEq] at H
        obtain ⟨rfl, rfl⟩ := H
        go_enter Try.func14, Try.ntmps14
        go_wp2_with (first | ((with_reducible refine gate_dst (N := 5) rfl ?_); (try (refine gate_guard (by rfl) ?_; dsimp only)); refine box_event ?hg (N := 5) ?hd (cs := #[.int .i64 a2_0, .int .i64 a2_1, .int .u32 a2_2, .int .u32 a2_3, .int .u32 a2_4, .int .u32 a2_5, .int .u32 a2_6, .int .u32 a2_7, .int .i64 a2_8]) (t := 25) ?hr ?_; (case hd => rfl); (case hg => rfl); (case hr => first | (go_simp; done) | (go_simp; rfl)); intro gb139 hg w21 hbox hb; have n0_ := Aside0.mk (ve_ HO0.out gb139 hg hb); have n1_ := Aside0.mk (bs_ hb); have n2_ := Aside0.mk (hbox); have n4_ := Aside0.mk ((ge_ hg : w.heap.size ≤ gb139)); clear HO0 HB; have HO0 := n0_; have HB := n1_; have BK139 := n2_; have GE139 := n4_; clear n0_ n1_ n2_ n4_; clear hb hbox hg; have ⟨hcz22_0, hcz22_1, hcz22_2, hcz22_3, hcz22_4, hcz22_5, hcz22_6, hcz22_7, hcz22_8⟩ := cz9_ BK139.out; have ⟨hfz22_0, hfz22_1, hfz22_2, hfz22_3, hfz22_4, hfz22_5, hfz22_6, hfz22_7, hfz22_8⟩ := fz9_ BK139.out) | (go_at_call 10; (with_reducible refine (runs_May.calls a2_0 a2_1 a2_2 a2_3 a2_4 a2_5 a2_6 a2_7 a2_8 false _ A8.out).mono ?_); rintro e w23 ⟨rfl, hb⟩; have n0_ := Aside0.mk (vb_ HO0.out hb); have n2_ := Aside0.mk (bs_ hb); clear HO0 BK139 HB; have HO0 := n0_; have HB := n2_; clear n0_ n2_; (try clear hb); (try clear hb2); (try clear hk); (try clear hi)))
        go_ret2
        exact ⟨_, by first | rfl | (simp [errW_none, errW_some] <;> rfl) | (simp [*, errW_none, errW_some] <;> rfl), fun h0_ => absurd h0_ (by first | decide | (first | exact c5 | (simp at *; done) | omega)), by repeat (first | (with_reducible first | exact HB.out | apply below_alloc | apply pw_below_drewN | apply below_drew1 | refine below_set ?_ GE139.out) | exact HB.out)⟩
theorem rk.heap25 : Kd.Heap k25 := Kd.heap_iso _ (Kd.heap_pair (Kd.heap_int _) (Kd.heap_pair (Kd.heap_int _) (Kd.heap_pair (Kd.heap_int _) (Kd.heap_pair (Kd.heap_int _) (Kd.heap_pair (Kd.heap_int _) (Kd.heap_pair (Kd.heap_int _) (Kd.heap_pair (Kd.heap_int _) (Kd.heap_pair (Kd.heap_int _) (Kd.heap_int _)))))))))
set_option maxHeartbeats 8000000 in
set_option maxRecDepth 100000 in
theorem chamberlainlaw09_RunsKeeps.calls (A0 : Option Addr) (c0 : Nat) (l0 : List (S25)) (a1_0 : Int) (a1_1 : Int) (a1_2 : Int) (a1_3 : Int) (a1_4 : Int) (a1_5 : Int) (a1_6 : Int) (a1_7 : Int) (a1_8 : Int) (a2 : Int) (r : Bool) (w : World) (hr0 : Kd.C k25 w A0 l0.length l0) (hc0 : l0.length ≤ c0) (h : chamberlainlaw09_RunsKeeps.f l0 a1_0 a1_1 a1_2 a1_3 a1_4 a1_5 a1_6 a1_7 a1_8 a2 = some r) (hT0 : r = true) :
    Calls Try.prog 5 #[.slice A0 l0.length c0, .agg #[.int .i64 a1_0, .int .i64 a1_1, .int .u32 a1_2, .int .u32 a1_3, .int .u32 a1_4, .int .u32 a1_5, .int .u32 a1_6, .int .u32 a1_7, .int .i64 a1_8], .int .i64 a2] w fun e w' => e = .returned (.bool r) ∧ Below w.heap.size w w' := by
  have hT := Aside0.mk hT0
  clear hT0
  unfold chamberlainlaw09_RunsKeeps.f at h
  obtain rfl := Option.some.inj h
  clear h hT
  have hu25 := Try.underlying25
  have F0 := Kd.C_F rk.heap25 hr0
  have hmax := hr0.2.1
  have AW := Aside0.mk (uk.awake60 60 (Nat.le_refl _))
  by_cases hL : l0.length ≤ 60
  rotate_left
  · have q : decide ((l0.length : Int) > 60) = true := decide_eq_true (by omega)
    go_enter Try.func5, Try.ntmps5
    go_wp2_with (first | ((with_reducible refine gate_dst (N := 4) rfl ?_); refine box_event ?hg (N := 4) ?hd (cs := #[.int .i64 a1_0, .int .i64 a1_1, .int .u32 a1_2, .int .u32 a1_3, .int .u32 a1_4, .int .u32 a1_5, .int .u32 a1_6, .int .u32 a1_7, .int .i64 a1_8]) (t := 25) ?hr ?_; (case hd => rfl); (case hg => rfl); (case hr => first | (go_simp; done) | (go_simp; rfl)); intro gb hgb W0 BK HB; clear hgb) | (go_at_call 7; refine (chamberlainlaw09_awake.calls 60 true _ AW.out).mono ?_; rintro e W1 ⟨rfl, hb1⟩; replace BK := blk_below BK hb1; replace HB := HB.trans (hb1.mono HB.size); clear hb1))
    go_ret
    exact ⟨rfl, HB⟩
  have q : decide ((l0.length : Int) > 60) = false := decide_eq_false (by omega)
  have AR := Aside0.mk (uk.rright_eq l0 60 300 (by omega) (by omega))
  obtain ⟨b, hb⟩ : ∃ b, b = (decide ((l0.length : Int) ≤ 60) && uk.allR l0) := ⟨_, rfl⟩
  rw [← hb] at AR
  clear hb
  cases b with
  | false =>
    go_enter Try.func5, Try.ntmps5
    go_wp2_with (first | ((with_reducible refine gate_dst (N := 4) rfl ?_); refine box_event ?hg (N := 4) ?hd (cs := #[.int .i64 a1_0, .int .i64 a1_1, .int .u32 a1_2, .int .u32 a1_3, .int .u32 a1_4, .int .u32 a1_5, .int .u32 a1_6, .int .u32 a1_7, .int .i64 a1_8]) (t := 25) ?hr ?_; (case hd => rfl); (case hg => rfl); (case hr => first | (go_simp; done) | (go_simp; rfl)); intro gb hgb W0 BK HB; clear hgb) | (go_at_call 9; refine (chamberlainref09_Right.calls 300 _ _ l0 60 false _ (Kd.F_now (Kd.F_below F0 HB)) hc0 AR.out).mono ?_; rintro e W2 ⟨rfl, hb2⟩; replace BK := blk_below BK hb2; replace HB := HB.trans (hb2.mono HB.size); clear hb2) | (go_at_call 7; refine (chamberlainlaw09_awake.calls 60 true _ AW.out).mono ?_; rintro e W1 ⟨rfl, hb1⟩; replace BK := blk_below BK hb1; replace HB := HB.trans (hb1.mono HB.size); clear hb1))
    go_ret
    exact ⟨rfl, HB⟩
  | true =>
    obtain ⟨n, hn⟩ : ∃ n : Nat, n = l0.length + 2 := ⟨_, rfl⟩
    have er : (List.replicate ((l0.length : Int) + 2).toNat ([.int .i64 0, .int .i64 0, .int .u32 0, .int .u32 0, .int .u32 0, .int .u32 0, .int .u32 0, .int .u32 0, .int .i64 0] : List Value)).length = n := by simp; omega
    have HN := Aside0.mk hn
    have hln : l0.length ≤ n := by omega
    have hlt : l0.length < n := by omega
    have hn62 : n ≤ 62 := by omega
    have hnn : ((l0.length : Int) + 2).toNat = n := by omega
    have pz1 : (0 ≤ (l0.length : Int)) = True := eq_true (by omega)
    have pz2 : ((l0.length : Int) < (n : Int)) = True := eq_true (by omega)
    clear hn
    have w33 : wrap64 ((l0.length : Int) + 2) = (l0.length : Int) + 2 := uk.w64 (by omega) (by omega)
    have hz9 : k25.sz = 9 := rfl
    go_enter Try.func5, Try.ntmps5
    go_wp2_with (first | ((with_reducible refine gate_dst (N := 4) rfl ?_); refine box_event ?hg (N := 4) ?hd (cs := #[.int .i64 a1_0, .int .i64 a1_1, .int .u32 a1_2, .int .u32 a1_3, .int .u32 a1_4, .int .u32 a1_5, .int .u32 a1_6, .int .u32 a1_7, .int .i64 a1_8]) (t := 25) ?hr ?_; (case hd => rfl); (case hg => rfl); (case hr => first | (go_simp; done) | (go_simp; rfl)); intro gb hgb W0 BK HB; clear hgb) | (go_at_call 9; refine (chamberlainref09_Right.calls 300 _ _ l0 60 true _ (Kd.F_now (Kd.F_below F0 HB)) hc0 AR.out).mono ?_; rintro e W2 ⟨rfl, hb2⟩; replace BK := blk_below BK hb2; replace HB := HB.trans (hb2.mono HB.size); clear hb2) | (go_at_call 7; refine (chamberlainlaw09_awake.calls 60 true _ AW.out).mono ?_; rintro e W1 ⟨rfl, hb1⟩; replace BK := blk_below BK hb1; replace HB := HB.trans (hb1.mono HB.size); clear hb1) | ((with_reducible refine gate_dst (N := 34) rfl ?_); refine Kd.R_make (Kd.raw 9) w.heap.size 25 rfl (N := 34) rfl 22 _ _ rfl ((l0.length : Int) + 2) ?hx ?hy Try.underlying22 (.agg #[(.int .i64 0), (.int .i64 0), (.int .u32 0), (.int .u32 0), (.int .u32 0), (.int .u32 0), (.int .u32 0), (.int .u32 0), (.int .i64 0)]) 48 info25 rfl (by decide) (by omega) [.int .i64 0, .int .i64 0, .int .u32 0, .int .u32 0, .int .u32 0, .int .u32 0, .int .u32 0, .int .u32 0, .int .i64 0] (ok := fun _ => True) (okp := fun _ => True) ⟨rfl, rfl, by decide⟩ (fun _ hk => hk) trivial (by omega) (by omega) HB HB.size ?_; (case hx => first | rfl | (go_simp; done) | (go_simp; rfl)); (case hy => first | rfl | (go_simp; done) | (go_simp; rfl)); intro v1 W3 hR HB3 hgr hat; obtain ⟨g, cap, cur, hv, hg1, hg2, hg3, hg4, hh, hg5, hg6⟩ := kk.open_ hR (by have := HN.out; rw [er]; omega); rw [er] at hv hg3; subst hv; have hne : gb ≠ g := (by obtain ⟨b, e, hb⟩ := hat; have e' : g = b := (by simpa [Value.ownBlock] using e); have := blk_lt BK; omega); replace BK := (hgr.block gb (blk_lt BK) (by simp)).trans BK; obtain ⟨olds, ho1, ho2, ho3, ho4, ho5⟩ := nrow.olds (Kd.F_below F0 HB3) (by decide); clear hgr hat hR) | ((with_reducible refine gate_builtin (b := .copy) (xs := #[.tmp 35, .tmp 36]) rfl ?_); refine kc.wp rfl (.tmp 35) (.tmp 36) 22 22 25 rfl 9 g n cap A0 l0.length c0 rfl rfl cur.toList 25 olds Try.underlying22 (by kernel_rfl) (by simpa using hh) (by rw [ho1, hz9]; congr 1; exact (Nat.min_eq_left (by have := HN.out; omega)).symm) (kk.src ho1 ho2 ho3) (by rw [ho1, hz9, show cur.toList.length = cur.size from by simp, hg5]; exact Nat.mul_le_mul_right _ (Nat.le_trans hln hg3)) ho5 w.heap.size w HB3 hg1 ?_; intro W4 hq HB hoth; replace BK := (hoth gb hne).trans BK; have FO := kk.own HB3 HB hq ho1 ho4 hmax; have hzero := kk.rest (l := l0.length) (sz := 9) (by rw [ho1, hz9]) (zs := [.int .i64 0, .int .i64 0, .int .u32 0, .int .u32 0, .int .u32 0, .int .u32 0, .int .u32 0, .int .u32 0, .int .i64 0]) (hg6 l0.length _ (by rw [List.getElem?_replicate, if_pos (by rw [hnn]; exact hlt)])); obtain ⟨cs4, hcs4⟩ : ∃ c, c = (olds ++ cur.toList.drop olds.length).toArray := ⟨_, rfl⟩; have hs4 : cs4.size = cap * 9 := (by rw [hcs4, List.size_toArray, List.length_append, List.length_drop, show cur.toList.length = cur.size from (by simp), hg5, Nat.add_sub_cancel' (by rw [ho1, hz9]; exact Nat.mul_le_mul_right _ (Nat.le_trans hln hg3))]); rw [← hcs4] at hq hzero; clear hcs4 hoth hh ho1 ho2 ho3 ho4 ho5 hg5 hg6 HB3; have HCut := kk.cut 22 g cap n l0.length 9 (by kernel_rfl) (fun W => by kernel_rfl) hln hg3; have hgs := blk_lt hq; have k0_ : W4.cell? ⟨gb, 0, none⟩ = some (.int .i64 a1_0) := (blk_cell BK 0).trans rfl; have k1_ : W4.cell? ⟨gb, 1, none⟩ = some (.int .i64 a1_1) := (blk_cell BK 1).trans rfl; have k2_ : W4.cell? ⟨gb, 2, none⟩ = some (.int .u32 a1_2) := (blk_cell BK 2).trans rfl; have k3_ : W4.cell? ⟨gb, 3, none⟩ = some (.int .u32 a1_3) := (blk_cell BK 3).trans rfl; have k4_ : W4.cell? ⟨gb, 4, none⟩ = some (.int .u32 a1_4) := (blk_cell BK 4).trans rfl; have k5_ : W4.cell? ⟨gb, 5, none⟩ = some (.int .u32 a1_5) := (blk_cell BK 5).trans rfl; have k6_ : W4.cell? ⟨gb, 6, none⟩ = some (.int .u32 a1_6) := (blk_cell BK 6).trans rfl; have k7_ : W4.cell? ⟨gb, 7, none⟩ = some (.int .u32 a1_7) := (blk_cell BK 7).trans rfl; have k8_ : W4.cell? ⟨gb, 8, none⟩ = some (.int .i64 a1_8) := (blk_cell BK 8).trans rfl; have z0_ := blk_frozen BK 0; have z1_ := blk_frozen BK 1; have z2_ := blk_frozen BK 2; have z3_ := blk_frozen BK 3; have z4_ := blk_frozen BK 4; have z5_ := blk_frozen BK 5; have z6_ := blk_frozen BK 6; have z7_ := blk_frozen BK 7; have z8_ := blk_frozen BK 8))
    clear w33 er hnn
    obtain ⟨ra1, ra2, hra⟩ : ∃ ra1 ra2, uk.addOf l0 70 ⟨a1_0, a1_1, a1_2, a1_3, a1_4, a1_5, a1_6, a1_7, a1_8⟩ = (ra1, ra2) := ⟨_, _, rfl⟩
    obtain ⟨rb1, rb2, hrb⟩ : ∃ rb1 rb2, uk.setOf l0 a2 ⟨a1_0, a1_1, a1_2, a1_3, a1_4, a1_5, a1_6, a1_7, a1_8⟩ = (rb1, rb2) := ⟨_, _, rfl⟩
    have hla : ra1.length ≤ 61 := by
      have e : (uk.addOf l0 70 ⟨a1_0, a1_1, a1_2, a1_3, a1_4, a1_5, a1_6, a1_7, a1_8⟩).1.length ≤ 61 := by unfold uk.addOf; (repeat' split) <;> simp <;> omega
      rw [hra] at e; exact e
    have hlb : rb1.length ≤ 61 := by
      have e : (uk.setOf l0 a2 ⟨a1_0, a1_1, a1_2, a1_3, a1_4, a1_5, a1_6, a1_7, a1_8⟩).1.length ≤ 61 := by unfold uk.setOf; (repeat' split) <;> simp <;> omega
      rw [hrb] at e; exact e
    have AA := Aside0.mk (show runs_Add.f 300 l0 70 a1_0 a1_1 a1_2 a1_3 a1_4 a1_5 a1_6 a1_7 a1_8 = some (ra1, ra2) by rw [uk.add_eq _ _ _ _ _ _ _ _ _ _ _ _ (by omega) (by omega), hra])
    have AB := Aside0.mk (show runs_Set.f l0 a2 a1_0 a1_1 a1_2 a1_3 a1_4 a1_5 a1_6 a1_7 a1_8 = some (rb1, rb2) by rw [uk.set_eq _ _ _ _ _ _ _ _ _ _ _ (by omega), hrb])
    have AC := Aside0.mk (show chamberlainref09_Add.f l0 70 a1_0 a1_1 a1_2 a1_3 a1_4 a1_5 a1_6 a1_7 a1_8 = some (ra1, ra2) by rw [uk.radd_eq _ _ _ _ _ _ _ _ _ _ _ (by omega), hra])
    have AD := Aside0.mk (show chamberlainref09_Set.f 300 l0 a2 a1_0 a1_1 a1_2 a1_3 a1_4 a1_5 a1_6 a1_7 a1_8 = some (rb1, rb2) by rw [uk.rset_eq _ _ _ _ _ _ _ _ _ _ _ _ (by omega) (by omega), hrb])
    have AS := Aside0.mk (uk.rsame_self l0 300 (by omega) (by omega))
    have ASa := Aside0.mk (uk.rsame_self ra1 300 (by omega) (by omega))
    have ASb := Aside0.mk (uk.rsame_self rb1 300 (by omega) (by omega))
    clear hra hrb
    have hlc : l0.length ≤ cap := Nat.le_trans hln hg3
    obtain ⟨m, hm4⟩ : ∃ m, m = W4.heap.size := ⟨_, rfl⟩
    rw [← hm4] at hgs
    have HM := Aside0.mk hm4
    clear hm4
    go_wp2_with fail
    refine (runs_Add.new 300 (fun k => k = g ∨ k < w.heap.size) _ cap l0 70 a1_0 a1_1 a1_2 a1_3 a1_4 a1_5 a1_6 a1_7 a1_8 ra1 ra2 _ (Kd.V_mk hlc FO) AA.out).mono ?_
    rintro e W5 ⟨va, rfl, hVa, hb5⟩
    clear k0_ z0_ k1_ z1_ k2_ z2_ k3_ z3_ k4_ z4_ k5_ z5_ k6_ z6_ k7_ z7_ k8_ z8_
    have hm5 : m ≤ W5.heap.size := by rw [HM.out]; exact hb5.size
    replace hVa : ra2 = 0 → Kd.V k25 25 W5 0 (fun k => m ≤ k) va ra1 := fun h0 => by rw [HM.out]; exact hVa h0
    replace BK := blk_below BK hb5
    replace hq := blk_below hq hb5
    replace FO := Kd.F_below FO hb5
    replace HB := HB.trans (hb5.mono HB.size)
    have k0_ : W5.cell? ⟨gb, 0, none⟩ = some (.int .i64 a1_0) := (blk_cell BK 0).trans rfl
    have k1_ : W5.cell? ⟨gb, 1, none⟩ = some (.int .i64 a1_1) := (blk_cell BK 1).trans rfl
    have k2_ : W5.cell? ⟨gb, 2, none⟩ = some (.int .u32 a1_2) := (blk_cell BK 2).trans rfl
    have k3_ : W5.cell? ⟨gb, 3, none⟩ = some (.int .u32 a1_3) := (blk_cell BK 3).trans rfl
    have k4_ : W5.cell? ⟨gb, 4, none⟩ = some (.int .u32 a1_4) := (blk_cell BK 4).trans rfl
    have k5_ : W5.cell? ⟨gb, 5, none⟩ = some (.int .u32 a1_5) := (blk_cell BK 5).trans rfl
    have k6_ : W5.cell? ⟨gb, 6, none⟩ = some (.int .u32 a1_6) := (blk_cell BK 6).trans rfl
    have k7_ : W5.cell? ⟨gb, 7, none⟩ = some (.int .u32 a1_7) := (blk_cell BK 7).trans rfl
    have k8_ : W5.cell? ⟨gb, 8, none⟩ = some (.int .i64 a1_8) := (blk_cell BK 8).trans rfl
    have z0_ := blk_frozen BK 0
    have z1_ := blk_frozen BK 1
    have z2_ := blk_frozen BK 2
    have z3_ := blk_frozen BK 3
    have z4_ := blk_frozen BK 4
    have z5_ := blk_frozen BK 5
    have z6_ := blk_frozen BK 6
    have z7_ := blk_frozen BK 7
    have z8_ := blk_frozen BK 8
    clear hb5
    go_wp2_with fail
    refine (runs_Set.new (fun k => k = g ∨ k < w.heap.size) _ cap l0 a2 a1_0 a1_1 a1_2 a1_3 a1_4 a1_5 a1_6 a1_7 a1_8 rb1 rb2 _ (Kd.V_mk hlc FO) AB.out).mono ?_
    rintro e W6 ⟨vb, rfl, hVb, hb6⟩
    clear k0_ z0_ k1_ z1_ k2_ z2_ k3_ z3_ k4_ z4_ k5_ z5_ k6_ z6_ k7_ z7_ k8_ z8_
    replace hVa := fun h0 => Kd.V_below (hVa h0) hb6
    replace hVb : rb2 = 0 → Kd.V k25 25 W6 0 (fun k => m ≤ k) vb rb1 := fun h0 => Kd.V_mono (hVb h0) (fun k hk => Nat.le_trans hm5 hk)
    replace BK := blk_below BK hb6
    replace hq := blk_below hq hb6
    replace FO := Kd.F_below FO hb6
    replace HB := HB.trans (hb6.mono HB.size)
    clear hb6 hm5
    go_wp2_with fail
    refine (chamberlainref09_Same.calls 300 _ _ l0 _ _ l0 true _ (Kd.F_now FO) hlc (Kd.F_now (Kd.F_below F0 HB)) hc0 AS.out).mono ?_
    rintro e W7 ⟨rfl, hd7⟩
    have hb7 := hd7.below
    replace hVa := fun h0 => Kd.V_below (hVa h0) hb7
    replace hVb := fun h0 => Kd.V_below (hVb h0) hb7
    replace BK := blk_below BK hb7
    replace hq := blk_below hq hb7
    replace HB := HB.trans (hb7.mono HB.size)
    clear hb7 hd7 FO
    have x0_ : W7.cell? ⟨g, l0.length * 9, none⟩ = some (.int .i64 0) := (blk_cell hq _).trans (hzero 0 _ rfl)
    have y0_ := blk_frozen hq (l0.length * 9)
    have x1_ : W7.cell? ⟨g, l0.length * 9 + 1, none⟩ = some (.int .i64 0) := (blk_cell hq _).trans (hzero 1 _ rfl)
    have y1_ := blk_frozen hq (l0.length * 9 + 1)
    have x2_ : W7.cell? ⟨g, l0.length * 9 + 2, none⟩ = some (.int .u32 0) := (blk_cell hq _).trans (hzero 2 _ rfl)
    have y2_ := blk_frozen hq (l0.length * 9 + 2)
    have x3_ : W7.cell? ⟨g, l0.length * 9 + 3, none⟩ = some (.int .u32 0) := (blk_cell hq _).trans (hzero 3 _ rfl)
    have y3_ := blk_frozen hq (l0.length * 9 + 3)
    have x4_ : W7.cell? ⟨g, l0.length * 9 + 4, none⟩ = some (.int .u32 0) := (blk_cell hq _).trans (hzero 4 _ rfl)
    have y4_ := blk_frozen hq (l0.length * 9 + 4)
    have x5_ : W7.cell? ⟨g, l0.length * 9 + 5, none⟩ = some (.int .u32 0) := (blk_cell hq _).trans (hzero 5 _ rfl)
    have y5_ := blk_frozen hq (l0.length * 9 + 5)
    have x6_ : W7.cell? ⟨g, l0.length * 9 + 6, none⟩ = some (.int .u32 0) := (blk_cell hq _).trans (hzero 6 _ rfl)
    have y6_ := blk_frozen hq (l0.length * 9 + 6)
    have x7_ : W7.cell? ⟨g, l0.length * 9 + 7, none⟩ = some (.int .u32 0) := (blk_cell hq _).trans (hzero 7 _ rfl)
    have y7_ := blk_frozen hq (l0.length * 9 + 7)
    have x8_ : W7.cell? ⟨g, l0.length * 9 + 8, none⟩ = some (.int .i64 0) := (blk_cell hq _).trans (hzero 8 _ rfl)
    have y8_ := blk_frozen hq (l0.length * 9 + 8)
    go_wp2_with fail
    clear x0_ y0_ x1_ y1_ x2_ y2_ x3_ y3_ x4_ y4_ x5_ y5_ x6_ y6_ x7_ y7_ x8_ y8_
    have HK0 : kk.Blk W7 g 25 (cap * 9) := ⟨cs4, hq, hs4⟩
    have F7 := Kd.F_below F0 HB
    clear hq hs4 hzero HCut
    have hgm : g < m := hgs
    go_loopg [13] (n + 1) (fun kq v13 w' => ∃ (i : Nat), v13 = .int .i64 (i : Int) ∧ Aside0 (i + kq = n + 1) ∧ Aside0 (i ≤ n) ∧ Aside0 (kk.Blk w' g 25 (cap * 9)) ∧ Aside0 (w'.heap[gb]? = some (.cells #[.int .i64 a1_0, .int .i64 a1_1, .int .u32 a1_2, .int .u32 a1_3, .int .u32 a1_4, .int .u32 a1_5, .int .u32 a1_6, .int .u32 a1_7, .int .i64 a1_8] 25 (0, 0))) ∧ Aside0 (ra2 = 0 → Kd.V k25 25 w' 0 (fun k => m ≤ k) va ra1) ∧ Aside0 (rb2 = 0 → Kd.V k25 25 w' 0 (fun k => m ≤ k) vb rb1) ∧ Aside0 (Kd.F k25 w' (fun k => k < w.heap.size) A0 l0.length l0) ∧ Aside0 (Below w.heap.size w w'))
    case atStart => exact ⟨0, rfl, ⟨Nat.zero_add _⟩, ⟨Nat.zero_le _⟩, ⟨HK0⟩, ⟨BK⟩, ⟨hVa⟩, ⟨hVb⟩, ⟨F7⟩, ⟨HB⟩⟩
    case round =>
      clear HK0 BK hVa hVb F7 HB
      obtain ⟨i, rfl, HA, HI, HK, BK, HVa, HVb, HF, HB⟩ := hrel
      cases gk with
      | zero => have := HA.out; have := HI.out; omega
      | succ k2 =>
        by_cases c : i < n
        · have A1 : i + 1 + k2 = n + 1 := by have := HA.out; omega
          have A2 : i + 1 ≤ n := by omega
          have A4 : k2 < k2 + 1 := Nat.lt_succ_self _
          have ic : i * 9 + 9 ≤ cap * 9 := by omega
          have cb : decide ((i : Int) < (n : Int)) = true := decide_eq_true (by omega)
          have p1 : (0 ≤ (i : Int)) = True := eq_true (by omega)
          have p2 : ((i : Int) < (n : Int)) = True := eq_true (by omega)
          have f1 : ∀ k, k < w.heap.size → k ≠ g := fun k hk e => by omega
          have f2 : ∀ k, m ≤ k → k ≠ g := fun k hk e => by omega
          obtain ⟨u0_, i0_, j0_⟩ := HK.out.cell (i * 9) (by omega)
          obtain ⟨u1_, i1_, j1_⟩ := HK.out.cell (i * 9 + 1) (by omega)
          obtain ⟨u2_, i2_, j2_⟩ := HK.out.cell (i * 9 + 2) (by omega)
          obtain ⟨u3_, i3_, j3_⟩ := HK.out.cell (i * 9 + 3) (by omega)
          obtain ⟨u4_, i4_, j4_⟩ := HK.out.cell (i * 9 + 4) (by omega)
          obtain ⟨u5_, i5_, j5_⟩ := HK.out.cell (i * 9 + 5) (by omega)
          obtain ⟨u6_, i6_, j6_⟩ := HK.out.cell (i * 9 + 6) (by omega)
          obtain ⟨u7_, i7_, j7_⟩ := HK.out.cell (i * 9 + 7) (by omega)
          obtain ⟨u8_, i8_, j8_⟩ := HK.out.cell (i * 9 + 8) (by omega)
          clear ic
          have w58 : Value.int .i64 (wrap64 ((i : Int) + 1)) = Value.int .i64 ((i + 1 : Nat) : Int) := by rw [uk.w64 (by omega) (by omega)]; rfl
          go_wp2_with (first | ((with_reducible refine gate_store (t := 25) (p := 77) rfl ?_); refine store_event (t := 25) (p := 77) (v := ?vo_) (w1 := (((((((((wr.setCell ⟨g, i * 9, none⟩ (.int .i64 0)).setCell ⟨g, i * 9 + 1, none⟩ (.int .i64 0)).setCell ⟨g, i * 9 + 2, none⟩ (.int .u32 0)).setCell ⟨g, i * 9 + 3, none⟩ (.int .u32 0)).setCell ⟨g, i * 9 + 4, none⟩ (.int .u32 0)).setCell ⟨g, i * 9 + 5, none⟩ (.int .u32 9)).setCell ⟨g, i * 9 + 6, none⟩ (.int .u32 0)).setCell ⟨g, i * 9 + 7, none⟩ (.int .u32 0)).setCell ⟨g, i * 9 + 8, none⟩ (.int .i64 0))) ?hg ?ho ?hn ?hr ?_; (case ho => rfl); (case hg => rfl); (case hn => rfl); (case hr => first | (go_simp; done) | (go_simp; rfl)); intro w7 hw; have HK7 := (by rw [hw]; exact (((((((((HK.out.set (i * 9) _).set (i * 9 + 1) _).set (i * 9 + 2) _).set (i * 9 + 3) _).set (i * 9 + 4) _).set (i * 9 + 5) _).set (i * 9 + 6) _).set (i * 9 + 7) _).set (i * 9 + 8) _) : kk.Blk w7 g 25 (cap * 9)); have BK7 := (by rw [hw]; exact (blk_far (p := ⟨g, i * 9 + 8, none⟩) (blk_far (p := ⟨g, i * 9 + 7, none⟩) (blk_far (p := ⟨g, i * 9 + 6, none⟩) (blk_far (p := ⟨g, i * 9 + 5, none⟩) (blk_far (p := ⟨g, i * 9 + 4, none⟩) (blk_far (p := ⟨g, i * 9 + 3, none⟩) (blk_far (p := ⟨g, i * 9 + 2, none⟩) (blk_far (p := ⟨g, i * 9 + 1, none⟩) (blk_far (p := ⟨g, i * 9, none⟩) BK.out hne _) hne _) hne _) hne _) hne _) hne _) hne _) hne _) hne _) : w7.heap[gb]? = some (.cells #[.int .i64 a1_0, .int .i64 a1_1, .int .u32 a1_2, .int .u32 a1_3, .int .u32 a1_4, .int .u32 a1_5, .int .u32 a1_6, .int .u32 a1_7, .int .i64 a1_8] 25 (0, 0))); have HVa7 := (fun h0 => by rw [hw]; exact (Kd.V_far (p := ⟨g, i * 9 + 8, none⟩) (Kd.V_far (p := ⟨g, i * 9 + 7, none⟩) (Kd.V_far (p := ⟨g, i * 9 + 6, none⟩) (Kd.V_far (p := ⟨g, i * 9 + 5, none⟩) (Kd.V_far (p := ⟨g, i * 9 + 4, none⟩) (Kd.V_far (p := ⟨g, i * 9 + 3, none⟩) (Kd.V_far (p := ⟨g, i * 9 + 2, none⟩) (Kd.V_far (p := ⟨g, i * 9 + 1, none⟩) (Kd.V_far (p := ⟨g, i * 9, none⟩) (HVa.out h0) f2 _) f2 _) f2 _) f2 _) f2 _) f2 _) f2 _) f2 _) f2 _) : ra2 = 0 → Kd.V k25 25 w7 0 (fun k => m ≤ k) va ra1); have HVb7 := (fun h0 => by rw [hw]; exact (Kd.V_far (p := ⟨g, i * 9 + 8, none⟩) (Kd.V_far (p := ⟨g, i * 9 + 7, none⟩) (Kd.V_far (p := ⟨g, i * 9 + 6, none⟩) (Kd.V_far (p := ⟨g, i * 9 + 5, none⟩) (Kd.V_far (p := ⟨g, i * 9 + 4, none⟩) (Kd.V_far (p := ⟨g, i * 9 + 3, none⟩) (Kd.V_far (p := ⟨g, i * 9 + 2, none⟩) (Kd.V_far (p := ⟨g, i * 9 + 1, none⟩) (Kd.V_far (p := ⟨g, i * 9, none⟩) (HVb.out h0) f2 _) f2 _) f2 _) f2 _) f2 _) f2 _) f2 _) f2 _) f2 _) : rb2 = 0 → Kd.V k25 25 w7 0 (fun k => m ≤ k) vb rb1); have HF7 := (by rw [hw]; exact (Kd.F_far (p := ⟨g, i * 9 + 8, none⟩) (Kd.F_far (p := ⟨g, i * 9 + 7, none⟩) (Kd.F_far (p := ⟨g, i * 9 + 6, none⟩) (Kd.F_far (p := ⟨g, i * 9 + 5, none⟩) (Kd.F_far (p := ⟨g, i * 9 + 4, none⟩) (Kd.F_far (p := ⟨g, i * 9 + 3, none⟩) (Kd.F_far (p := ⟨g, i * 9 + 2, none⟩) (Kd.F_far (p := ⟨g, i * 9 + 1, none⟩) (Kd.F_far (p := ⟨g, i * 9, none⟩) HF.out f1 _) f1 _) f1 _) f1 _) f1 _) f1 _) f1 _) f1 _) f1 _) : Kd.F k25 w7 (fun k => k < w.heap.size) A0 l0.length l0); have HB7 := (by rw [hw]; exact (below_set (g := g) (j := i * 9 + 8) (v := .int .i64 0) (below_set (g := g) (j := i * 9 + 7) (v := .int .u32 0) (below_set (g := g) (j := i * 9 + 6) (v := .int .u32 0) (below_set (g := g) (j := i * 9 + 5) (v := .int .u32 9) (below_set (g := g) (j := i * 9 + 4) (v := .int .u32 0) (below_set (g := g) (j := i * 9 + 3) (v := .int .u32 0) (below_set (g := g) (j := i * 9 + 2) (v := .int .u32 0) (below_set (g := g) (j := i * 9 + 1) (v := .int .i64 0) (below_set (g := g) (j := i * 9) (v := .int .i64 0) HB.out hg1) hg1) hg1) hg1) hg1) hg1) hg1) hg1) hg1) : Below w.heap.size w w7); clear hw i0_ j0_ i1_ j1_ i2_ j2_ i3_ j3_ i4_ j4_ i5_ j5_ i6_ j6_ i7_ j7_ i8_ j8_))
          go_roundg k2
          case measure => exact A4
          case rel => exact ⟨i + 1, (by first | exact w58 | rfl), ⟨A1⟩, ⟨A2⟩, ⟨HK7⟩, ⟨BK7⟩, ⟨HVa7⟩, ⟨HVb7⟩, ⟨HF7⟩, ⟨HB7⟩⟩
        · have cb : decide ((i : Int) < (n : Int)) = false := decide_eq_false (by omega)
          have HF := HF.out
          have HB := HB.out
          have HVa := HVa.out
          have HVb := HVb.out
          have BK := BK.out
          clear HK HA HI
          have k0_ : wr.cell? ⟨gb, 0, none⟩ = some (.int .i64 a1_0) := (blk_cell BK 0).trans rfl
          have k1_ : wr.cell? ⟨gb, 1, none⟩ = some (.int .i64 a1_1) := (blk_cell BK 1).trans rfl
          have k2_ : wr.cell? ⟨gb, 2, none⟩ = some (.int .u32 a1_2) := (blk_cell BK 2).trans rfl
          have k3_ : wr.cell? ⟨gb, 3, none⟩ = some (.int .u32 a1_3) := (blk_cell BK 3).trans rfl
          have k4_ : wr.cell? ⟨gb, 4, none⟩ = some (.int .u32 a1_4) := (blk_cell BK 4).trans rfl
          have k5_ : wr.cell? ⟨gb, 5, none⟩ = some (.int .u32 a1_5) := (blk_cell BK 5).trans rfl
          have k6_ : wr.cell? ⟨gb, 6, none⟩ = some (.int .u32 a1_6) := (blk_cell BK 6).trans rfl
          have k7_ : wr.cell? ⟨gb, 7, none⟩ = some (.int .u32 a1_7) := (blk_cell BK 7).trans rfl
          have k8_ : wr.cell? ⟨gb, 8, none⟩ = some (.int .i64 a1_8) := (blk_cell BK 8).trans rfl
          have z0_ := blk_frozen BK 0
          have z1_ := blk_frozen BK 1
          have z2_ := blk_frozen BK 2
          have z3_ := blk_frozen BK 3
          have z4_ := blk_frozen BK 4
          have z5_ := blk_frozen BK 5
          have z6_ := blk_frozen BK 6
          have z7_ := blk_frozen BK 7
          have z8_ := blk_frozen BK 8
          go_wp2_with fail
          refine (chamberlainref09_Add.calls (fun k => k < w.heap.size) _ c0 l0 70 a1_0 a1_1 a1_2 a1_3 a1_4 a1_5 a1_6 a1_7 a1_8 ra1 ra2 _ (Kd.V_mk hc0 HF) AC.out).mono ?_
          rintro e W8 ⟨vc, rfl, hVc, hb8⟩
          clear k0_ z0_ k1_ z1_ k2_ z2_ k3_ z3_ k4_ z4_ k5_ z5_ k6_ z6_ k7_ z7_ k8_ z8_
          replace HVa := fun h0 => Kd.V_below (HVa h0) hb8
          replace HVb := fun h0 => Kd.V_below (HVb h0) hb8
          replace BK := blk_below BK hb8
          replace HF := Kd.F_below HF hb8
          replace HB := HB.trans (hb8.mono HB.size)
          clear hb8
          have k0_ : W8.cell? ⟨gb, 0, none⟩ = some (.int .i64 a1_0) := (blk_cell BK 0).trans rfl
          have k1_ : W8.cell? ⟨gb, 1, none⟩ = some (.int .i64 a1_1) := (blk_cell BK 1).trans rfl
          have k2_ : W8.cell? ⟨gb, 2, none⟩ = some (.int .u32 a1_2) := (blk_cell BK 2).trans rfl
          have k3_ : W8.cell? ⟨gb, 3, none⟩ = some (.int .u32 a1_3) := (blk_cell BK 3).trans rfl
          have k4_ : W8.cell? ⟨gb, 4, none⟩ = some (.int .u32 a1_4) := (blk_cell BK 4).trans rfl
          have k5_ : W8.cell? ⟨gb, 5, none⟩ = some (.int .u32 a1_5) := (blk_cell BK 5).trans rfl
          have k6_ : W8.cell? ⟨gb, 6, none⟩ = some (.int .u32 a1_6) := (blk_cell BK 6).trans rfl
          have k7_ : W8.cell? ⟨gb, 7, none⟩ = some (.int .u32 a1_7) := (blk_cell BK 7).trans rfl
          have k8_ : W8.cell? ⟨gb, 8, none⟩ = some (.int .i64 a1_8) := (blk_cell BK 8).trans rfl
          have z0_ := blk_frozen BK 0
          have z1_ := blk_frozen BK 1
          have z2_ := blk_frozen BK 2
          have z3_ := blk_frozen BK 3
          have z4_ := blk_frozen BK 4
          have z5_ := blk_frozen BK 5
          have z6_ := blk_frozen BK 6
          have z7_ := blk_frozen BK 7
          have z8_ := blk_frozen BK 8
          go_wp2_with fail
          refine (chamberlainref09_Set.calls 300 (fun k => k < w.heap.size) _ c0 l0 a2 a1_0 a1_1 a1_2 a1_3 a1_4 a1_5 a1_6 a1_7 a1_8 rb1 rb2 _ (Kd.V_mk hc0 HF) AD.out).mono ?_
          rintro e W9 ⟨vd, rfl, hVd, hb9⟩
          clear k0_ z0_ k1_ z1_ k2_ z2_ k3_ z3_ k4_ z4_ k5_ z5_ k6_ z6_ k7_ z7_ k8_ z8_
          replace HVa := fun h0 => Kd.V_below (HVa h0) hb9
          replace HVb := fun h0 => Kd.V_below (HVb h0) hb9
          replace hVc := Kd.V_below hVc hb9
          replace HB := HB.trans (hb9.mono HB.size)
          clear hb9 BK HF
          obtain ⟨Ac, cc, rfl⟩ := Kd.V_slice hVc
          obtain ⟨Ad, cd, rfl⟩ := Kd.V_slice hVd
          clear cb c
          by_cases ea : ra2 = 0
          · have zra1 : (ra2 == 0) = true := beq_iff_eq.mpr ea
            have zra2 : (ra2 != 0) = false := bne_eq_false_iff_eq.mpr ea
            replace HVa := HVa ea
            obtain ⟨Aa, ca, rfl⟩ := Kd.V_slice HVa
            by_cases eb : rb2 = 0
            · have zrb1 : (rb2 == 0) = true := beq_iff_eq.mpr eb
              have zrb2 : (rb2 != 0) = false := bne_eq_false_iff_eq.mpr eb
              replace HVb := HVb eb
              obtain ⟨Ab, cb, rfl⟩ := Kd.V_slice HVb
              clear ea eb
              go_wp2_with (first | (go_at_call 18; (with_reducible refine (chamberlainref09_Same.calls 300 _ _ ra1 _ _ ra1 true _ (Kd.V_reads' HVa).2.2 (Kd.V_reads' HVa).2.1 (Kd.V_reads' hVc).2.2 (Kd.V_reads' hVc).2.1 ASa.out).mono ?_); rintro e W10 ⟨rfl, hd⟩; have hb := hd.below; replace HB := HB.trans (hb.mono HB.size); replace HVb := Kd.V_below HVb hb; replace hVd := Kd.V_below hVd hb; clear hb hd) | (go_at_call 18; (with_reducible refine (chamberlainref09_Same.calls 300 _ _ rb1 _ _ rb1 true _ (Kd.V_reads' HVb).2.2 (Kd.V_reads' HVb).2.1 (Kd.V_reads' hVd).2.2 (Kd.V_reads' hVd).2.1 ASb.out).mono ?_); rintro e W11 ⟨rfl, hd⟩; have hb := hd.below; replace HB := HB.trans (hb.mono HB.size); clear hb hd))
              go_ret
              exact ⟨by first | rfl | (simp; done) | (simp [*]; done), HB⟩
            · have zrb1 : (rb2 == 0) = false := beq_eq_false_iff_ne.mpr eb
              have zrb2 : (rb2 != 0) = true := bne_iff_ne.mpr eb
              clear ea eb
              go_wp2_with (first | (go_at_call 18; (with_reducible refine (chamberlainref09_Same.calls 300 _ _ ra1 _ _ ra1 true _ (Kd.V_reads' HVa).2.2 (Kd.V_reads' HVa).2.1 (Kd.V_reads' hVc).2.2 (Kd.V_reads' hVc).2.1 ASa.out).mono ?_); rintro e W10 ⟨rfl, hd⟩; have hb := hd.below; replace HB := HB.trans (hb.mono HB.size); replace HVb := fun h0 => Kd.V_below (HVb h0) hb; replace hVd := Kd.V_below hVd hb; clear hb hd))
              go_ret
              exact ⟨by first | rfl | (simp; done) | (simp [*]; done), HB⟩
          · have zra1 : (ra2 == 0) = false := beq_eq_false_iff_ne.mpr ea
            have zra2 : (ra2 != 0) = true := bne_iff_ne.mpr ea
            by_cases eb : rb2 = 0
            · have zrb1 : (rb2 == 0) = true := beq_iff_eq.mpr eb
              have zrb2 : (rb2 != 0) = false := bne_eq_false_iff_eq.mpr eb
              replace HVb := HVb eb
              obtain ⟨Ab, cb, rfl⟩ := Kd.V_slice HVb
              clear ea eb
              go_wp2_with (first | (go_at_call 18; (with_reducible refine (chamberlainref09_Same.calls 300 _ _ rb1 _ _ rb1 true _ (Kd.V_reads' HVb).2.2 (Kd.V_reads' HVb).2.1 (Kd.V_reads' hVd).2.2 (Kd.V_reads' hVd).2.1 ASb.out).mono ?_); rintro e W11 ⟨rfl, hd⟩; have hb := hd.below; replace HB := HB.trans (hb.mono HB.size); clear hb hd))
              go_ret
              exact ⟨by first | rfl | (simp; done) | (simp [*]; done), HB⟩
            · have zrb1 : (rb2 == 0) = false := beq_eq_false_iff_ne.mpr eb
              have zrb2 : (rb2 != 0) = true := bne_iff_ne.mpr eb
              clear ea eb
              go_wp2_with fail
              go_ret
              exact ⟨by first | rfl | (simp; done) | (simp [*]; done), HB⟩

end Go.Proofs.Ytjhopebkflgcbaa.PRunsKeeps
