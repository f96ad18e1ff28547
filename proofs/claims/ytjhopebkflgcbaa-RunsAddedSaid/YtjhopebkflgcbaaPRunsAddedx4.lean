-- Written for this claim by wip/tools/myprint.py (print.py's forms; proofs of the faked functions by hand).
import Derived.Test.YtjhopebkflgcbaaPRunsAddedx0
import Derived.Test.YtjhopebkflgcbaaPRunsAddedx1
import Derived.Test.YtjhopebkflgcbaaPRunsAddedx2
import Derived.Test.YtjhopebkflgcbaaPRunsAddedx3
namespace Go.Proofs.Ytjhopebkflgcbaa.PRunsAdded
open Go.RowKit Go.Proofs.YtjhopebkflgcbaaW.PrintWords Go.Proofs.YtjhopebkflgcbaaW.PrintLast Go.Proofs.YtjhopebkflgcbaaW.PrintMore
attribute [local go_sem] max2_int min2_int max_two min_two max_three min_three max_four min_four   -- for this text's walks alone
set_option linter.unusedVariables false
set_option linter.unusedSimpArgs false

/-! ### chamberlainref09_May: function 11 -/
def chamberlainref09_May.f (a0_0 : Int) (a0_1 : Int) (a0_2 : Int) (a0_3 : Int) (a0_4 : Int) (a0_5 : Int) (a0_6 : Int) (a0_7 : Int) (a0_8 : Int) : Option (Bool) := if a0_0 = 1 then (if a0_1 = 1 then (if a0_8 = 1 then (some true) else (if a0_8 = 2 then (some true) else (some (a0_8 == 3)))) else (if a0_1 = 2 then (if a0_8 = 1 then (some true) else (if a0_8 = 2 then (some true) else (some (a0_8 == 3)))) else (some false))) else (if a0_0 = 2 then (if a0_1 = 1 then (if a0_8 = 1 then (some true) else (if a0_8 = 2 then (some true) else (some (a0_8 == 3)))) else (if a0_1 = 2 then (if a0_8 = 1 then (some true) else (if a0_8 = 2 then (some true) else (some (a0_8 == 3)))) else (some false))) else (some false))
set_option maxHeartbeats 8000000 in
set_option maxRecDepth 100000 in
theorem chamberlainref09_May.calls (a0_0 : Int) (a0_1 : Int) (a0_2 : Int) (a0_3 : Int) (a0_4 : Int) (a0_5 : Int) (a0_6 : Int) (a0_7 : Int) (a0_8 : Int) (r : Bool) (w : World) (h : chamberlainref09_May.f a0_0 a0_1 a0_2 a0_3 a0_4 a0_5 a0_6 a0_7 a0_8 = some r) :
    Calls Try.prog 11 #[.agg #[.int .i64 a0_0, .int .i64 a0_1, .int .u32 a0_2, .int .u32 a0_3, .int .u32 a0_4, .int .u32 a0_5, .int .u32 a0_6, .int .u32 a0_7, .int .i64 a0_8]] w fun e w' => e = .returned (.bool r) ∧ Below w.heap.size w w' := by
  have hu25 := Try.underlying25
  have HB := Aside0.mk (Below.refl w.heap.size w)
  have H : (if a0_0 = 1 then (if a0_1 = 1 then (if a0_8 = 1 then (some true) else (if a0_8 = 2 then (some true) else (some (a0_8 == 3)))) else (if a0_1 = 2 then (if a0_8 = 1 then (some true) else (if a0_8 = 2 then (some true) else (some (a0_8 == 3)))) else (some false))) else (if a0_0 = 2 then (if a0_1 = 1 then (if a0_8 = 1 then (some true) else (if a0_8 = 2 then (some true) else (some (a0_8 == 3)))) else (if a0_1 = 2 then (if a0_8 = 1 then (some true) else (if a0_8 = 2 then (some true) else (some (a0_8 == 3)))) else (some false))) else (some false))) = some r := h
  clear h
  by_cases c2 : a0_0 = 1
  · rw [if_pos c2] at H
    have c2b0 : (a0_0 == 1) = true := beq_iff_eq.mpr c2
    have c2b1 : (a0_0 != 1) = false := bne_eq_false_iff_eq.mpr c2
    clear c2
    by_cases c3 : a0_1 = 1
    · rw [if_pos c3] at H
      have c3b0 : (a0_1 == 1) = true := beq_iff_eq.mpr c3
      have c3b1 : (a0_1 != 1) = false := bne_eq_false_iff_eq.mpr c3
      clear c3
      by_cases c4 : a0_8 = 1
      · rw [if_pos c4] at H
        have c4b0 : (a0_8 == 1) = true := beq_iff_eq.mpr c4
        have c4b1 : (a0_8 != 1) = false := bne_eq_false_iff_eq.mpr c4
        clear c4
        obtain rfl := Option.some.inj H
        go_enter Try.func11, Try.ntmps11
        go_wp2_with (first | ((with_reducible refine gate_dst (N := 1) rfl ?_); refine box_event ?hg (N := 1) ?hd (cs := #[.int .i64 a0_0, .int .i64 a0_1, .int .u32 a0_2, .int .u32 a0_3, .int .u32 a0_4, .int .u32 a0_5, .int .u32 a0_6, .int .u32 a0_7, .int .i64 a0_8]) (t := 25) ?hr ?_; (case hd => rfl); (case hg => rfl); (case hr => first | (go_simp; done) | (go_simp; rfl)); intro gb181 hg w5 hbox hb; have n0_ := Aside0.mk (below_step (by repeat (first | (with_reducible first | exact HB.out | apply below_alloc | apply pw_below_drewN | apply below_drew1) | exact HB.out)) hb); have n1_ := Aside0.mk (hbox); have n2_ := Aside0.mk ((by rw [hg]; exact (below_size (by repeat (first | (with_reducible first | exact HB.out | apply below_alloc | apply pw_below_drewN | apply below_drew1) | exact HB.out))) : w.heap.size ≤ gb181)); have n3_ := Aside0.mk ((by rw [hg]; exact (below_size (by repeat (first | (with_reducible first | exact HB.out | apply below_alloc | apply pw_below_drewN | apply below_drew1) | exact HB.out))) : w.heap.size ≤ gb181)); clear HB; have HB := n0_; have BK181 := n1_; have GW181 := n2_; have GE181 := n3_; clear n0_ n1_ n2_ n3_; clear hb hbox hg; have hcz6_0 : w5.cell? ⟨gb181, 0, none⟩ = some (.int .i64 a0_0) := (blk_cell BK181.out 0).trans rfl; have hcz6_1 : w5.cell? ⟨gb181, 1, none⟩ = some (.int .i64 a0_1) := (blk_cell BK181.out 1).trans rfl; have hcz6_2 : w5.cell? ⟨gb181, 2, none⟩ = some (.int .u32 a0_2) := (blk_cell BK181.out 2).trans rfl; have hcz6_3 : w5.cell? ⟨gb181, 3, none⟩ = some (.int .u32 a0_3) := (blk_cell BK181.out 3).trans rfl; have hcz6_4 : w5.cell? ⟨gb181, 4, none⟩ = some (.int .u32 a0_4) := (blk_cell BK181.out 4).trans rfl; have hcz6_5 : w5.cell? ⟨gb181, 5, none⟩ = some (.int .u32 a0_5) := (blk_cell BK181.out 5).trans rfl; have hcz6_6 : w5.cell? ⟨gb181, 6, none⟩ = some (.int .u32 a0_6) := (blk_cell BK181.out 6).trans rfl; have hcz6_7 : w5.cell? ⟨gb181, 7, none⟩ = some (.int .u32 a0_7) := (blk_cell BK181.out 7).trans rfl; have hcz6_8 : w5.cell? ⟨gb181, 8, none⟩ = some (.int .i64 a0_8) := (blk_cell BK181.out 8).trans rfl; have hfz6_0 := blk_frozen BK181.out 0; have hfz6_1 := blk_frozen BK181.out 1; have hfz6_2 := blk_frozen BK181.out 2; have hfz6_3 := blk_frozen BK181.out 3; have hfz6_4 := blk_frozen BK181.out 4; have hfz6_5 := blk_frozen BK181.out 5; have hfz6_6 := blk_frozen BK181.out 6; have hfz6_7 := blk_frozen BK181.out 7; have hfz6_8 := blk_frozen BK181.out 8))
        go_ret
        exact ⟨by first | rfl | (simp [errW_none, errW_some] <;> rfl) | (simp [*, errW_none, errW_some] <;> rfl), by repeat (first | (with_reducible first | exact HB.out | apply below_alloc | apply pw_below_drewN | apply below_drew1 | refine below_set ?_ GE181.out) | exact HB.out)⟩
      · rw [if_neg c4] at H
        have c4b0 : (a0_8 == 1) = false := beq_eq_false_iff_ne.mpr c4
        have c4b1 : (a0_8 != 1) = true := bne_iff_ne.mpr c4
        by_cases c7 : a0_8 = 2
        · rw [if_pos c7] at H
          have c7b0 : (a0_8 == 2) = true := beq_iff_eq.mpr c7
          have c7b1 : (a0_8 != 2) = false := bne_eq_false_iff_eq.mpr c7
          clear c7
          obtain rfl := Option.some.inj H
          go_enter Try.func11, Try.ntmps11
          go_wp2_with (first | ((with_reducible refine gate_dst (N := 1) rfl ?_); refine box_event ?hg (N := 1) ?hd (cs := #[.int .i64 a0_0, .int .i64 a0_1, .int .u32 a0_2, .int .u32 a0_3, .int .u32 a0_4, .int .u32 a0_5, .int .u32 a0_6, .int .u32 a0_7, .int .i64 a0_8]) (t := 25) ?hr ?_; (case hd => rfl); (case hg => rfl); (case hr => first | (go_simp; done) | (go_simp; rfl)); intro gb181 hg w8 hbox hb; have n0_ := Aside0.mk (below_step (by repeat (first | (with_reducible first | exact HB.out | apply below_alloc | apply pw_below_drewN | apply below_drew1) | exact HB.out)) hb); have n1_ := Aside0.mk (hbox); have n2_ := Aside0.mk ((by rw [hg]; exact (below_size (by repeat (first | (with_reducible first | exact HB.out | apply below_alloc | apply pw_below_drewN | apply below_drew1) | exact HB.out))) : w.heap.size ≤ gb181)); have n3_ := Aside0.mk ((by rw [hg]; exact (below_size (by repeat (first | (with_reducible first | exact HB.out | apply below_alloc | apply pw_below_drewN | apply below_drew1) | exact HB.out))) : w.heap.size ≤ gb181)); clear HB; have HB := n0_; have BK181 := n1_; have GW181 := n2_; have GE181 := n3_; clear n0_ n1_ n2_ n3_; clear hb hbox hg; have hcz9_0 : w8.cell? ⟨gb181, 0, none⟩ = some (.int .i64 a0_0) := (blk_cell BK181.out 0).trans rfl; have hcz9_1 : w8.cell? ⟨gb181, 1, none⟩ = some (.int .i64 a0_1) := (blk_cell BK181.out 1).trans rfl; have hcz9_2 : w8.cell? ⟨gb181, 2, none⟩ = some (.int .u32 a0_2) := (blk_cell BK181.out 2).trans rfl; have hcz9_3 : w8.cell? ⟨gb181, 3, none⟩ = some (.int .u32 a0_3) := (blk_cell BK181.out 3).trans rfl; have hcz9_4 : w8.cell? ⟨gb181, 4, none⟩ = some (.int .u32 a0_4) := (blk_cell BK181.out 4).trans rfl; have hcz9_5 : w8.cell? ⟨gb181, 5, none⟩ = some (.int .u32 a0_5) := (blk_cell BK181.out 5).trans rfl; have hcz9_6 : w8.cell? ⟨gb181, 6, none⟩ = some (.int .u32 a0_6) := (blk_cell BK181.out 6).trans rfl; have hcz9_7 : w8.cell? ⟨gb181, 7, none⟩ = some (.int .u32 a0_7) := (blk_cell BK181.out 7).trans rfl; have hcz9_8 : w8.cell? ⟨gb181, 8, none⟩ = some (.int .i64 a0_8) := (blk_cell BK181.out 8).trans rfl; have hfz9_0 := blk_frozen BK181.out 0; have hfz9_1 := blk_frozen BK181.out 1; have hfz9_2 := blk_frozen BK181.out 2; have hfz9_3 := blk_frozen BK181.out 3; have hfz9_4 := blk_frozen BK181.out 4; have hfz9_5 := blk_frozen BK181.out 5; have hfz9_6 := blk_frozen BK181.out 6; have hfz9_7 := blk_frozen BK181.out 7; have hfz9_8 := blk_frozen BK181.out 8))
          go_ret
          exact ⟨by first | rfl | (simp [errW_none, errW_some] <;> rfl) | (simp [*, errW_none, errW_some] <;> rfl), by repeat (first | (with_reducible first | exact HB.out | apply below_alloc | apply pw_below_drewN | apply below_drew1 | refine below_set ?_ GE181.out) | exact HB.out)⟩
        · rw [if_neg c7] at H
          have c7b0 : (a0_8 == 2) = false := beq_eq_false_iff_ne.mpr c7
          have c7b1 : (a0_8 != 2) = true := bne_iff_ne.mpr c7
          obtain rfl := Option.some.inj H
          go_enter Try.func11, Try.ntmps11
          go_wp2_with (first | ((with_reducible refine gate_dst (N := 1) rfl ?_); refine box_event ?hg (N := 1) ?hd (cs := #[.int .i64 a0_0, .int .i64 a0_1, .int .u32 a0_2, .int .u32 a0_3, .int .u32 a0_4, .int .u32 a0_5, .int .u32 a0_6, .int .u32 a0_7, .int .i64 a0_8]) (t := 25) ?hr ?_; (case hd => rfl); (case hg => rfl); (case hr => first | (go_simp; done) | (go_simp; rfl)); intro gb181 hg w10 hbox hb; have n0_ := Aside0.mk (below_step (by repeat (first | (with_reducible first | exact HB.out | apply below_alloc | apply pw_below_drewN | apply below_drew1) | exact HB.out)) hb); have n1_ := Aside0.mk (hbox); have n2_ := Aside0.mk ((by rw [hg]; exact (below_size (by repeat (first | (with_reducible first | exact HB.out | apply below_alloc | apply pw_below_drewN | apply below_drew1) | exact HB.out))) : w.heap.size ≤ gb181)); have n3_ := Aside0.mk ((by rw [hg]; exact (below_size (by repeat (first | (with_reducible first | exact HB.out | apply below_alloc | apply pw_below_drewN | apply below_drew1) | exact HB.out))) : w.heap.size ≤ gb181)); clear HB; have HB := n0_; have BK181 := n1_; have GW181 := n2_; have GE181 := n3_; clear n0_ n1_ n2_ n3_; clear hb hbox hg; have hcz11_0 : w10.cell? ⟨gb181, 0, none⟩ = some (.int .i64 a0_0) := (blk_cell BK181.out 0).trans rfl; have hcz11_1 : w10.cell? ⟨gb181, 1, none⟩ = some (.int .i64 a0_1) := (blk_cell BK181.out 1).trans rfl; have hcz11_2 : w10.cell? ⟨gb181, 2, none⟩ = some (.int .u32 a0_2) := (blk_cell BK181.out 2).trans rfl; have hcz11_3 : w10.cell? ⟨gb181, 3, none⟩ = some (.int .u32 a0_3) := (blk_cell BK181.out 3).trans rfl; have hcz11_4 : w10.cell? ⟨gb181, 4, none⟩ = some (.int .u32 a0_4) := (blk_cell BK181.out 4).trans rfl; have hcz11_5 : w10.cell? ⟨gb181, 5, none⟩ = some (.int .u32 a0_5) := (blk_cell BK181.out 5).trans rfl; have hcz11_6 : w10.cell? ⟨gb181, 6, none⟩ = some (.int .u32 a0_6) := (blk_cell BK181.out 6).trans rfl; have hcz11_7 : w10.cell? ⟨gb181, 7, none⟩ = some (.int .u32 a0_7) := (blk_cell BK181.out 7).trans rfl; have hcz11_8 : w10.cell? ⟨gb181, 8, none⟩ = some (.int .i64 a0_8) := (blk_cell BK181.out 8).trans rfl; have hfz11_0 := blk_frozen BK181.out 0; have hfz11_1 := blk_frozen BK181.out 1; have hfz11_2 := blk_frozen BK181.out 2; have hfz11_3 := blk_frozen BK181.out 3; have hfz11_4 := blk_frozen BK181.out 4; have hfz11_5 := blk_frozen BK181.out 5; have hfz11_6 := blk_frozen BK181.out 6; have hfz11_7 := blk_frozen BK181.out 7; have hfz11_8 := blk_frozen BK181.out 8))
          go_ret
          exact ⟨by first | rfl | (simp [errW_none, errW_some] <;> rfl) | (simp [*, errW_none, errW_some] <;> rfl), by repeat (first | (with_reducible first | exact HB.out | apply below_alloc | apply pw_below_drewN | apply below_drew1 | refine below_set ?_ GE181.out) | exact HB.out)⟩
    · rw [if_neg c3] at H
      have c3b0 : (a0_1 == 1) = false := beq_eq_false_iff_ne.mpr c3
      have c3b1 : (a0_1 != 1) = true := bne_iff_ne.mpr c3
      by_cases c12 : a0_1 = 2
      · rw [if_pos c12] at H
        have c12b0 : (a0_1 == 2) = true := beq_iff_eq.mpr c12
        have c12b1 : (a0_1 != 2) = false := bne_eq_false_iff_eq.mpr c12
        clear c12
        by_cases c13 : a0_8 = 1
        · rw [if_pos c13] at H
          have c13b0 : (a0_8 == 1) = true := beq_iff_eq.mpr c13
          have c13b1 : (a0_8 != 1) = false := bne_eq_false_iff_eq.mpr c13
          clear c13
          obtain rfl := Option.some.inj H
          go_enter Try.func11, Try.ntmps11
          go_wp2_with (first | ((with_reducible refine gate_dst (N := 1) rfl ?_); refine box_event ?hg (N := 1) ?hd (cs := #[.int .i64 a0_0, .int .i64 a0_1, .int .u32 a0_2, .int .u32 a0_3, .int .u32 a0_4, .int .u32 a0_5, .int .u32 a0_6, .int .u32 a0_7, .int .i64 a0_8]) (t := 25) ?hr ?_; (case hd => rfl); (case hg => rfl); (case hr => first | (go_simp; done) | (go_simp; rfl)); intro gb181 hg w14 hbox hb; have n0_ := Aside0.mk (below_step (by repeat (first | (with_reducible first | exact HB.out | apply below_alloc | apply pw_below_drewN | apply below_drew1) | exact HB.out)) hb); have n1_ := Aside0.mk (hbox); have n2_ := Aside0.mk ((by rw [hg]; exact (below_size (by repeat (first | (with_reducible first | exact HB.out | apply below_alloc | apply pw_below_drewN | apply below_drew1) | exact HB.out))) : w.heap.size ≤ gb181)); have n3_ := Aside0.mk ((by rw [hg]; exact (below_size (by repeat (first | (with_reducible first | exact HB.out | apply below_alloc | apply pw_below_drewN | apply below_drew1) | exact HB.out))) : w.heap.size ≤ gb181)); clear HB; have HB := n0_; have BK181 := n1_; have GW181 := n2_; have GE181 := n3_; clear n0_ n1_ n2_ n3_; clear hb hbox hg; have hcz15_0 : w14.cell? ⟨gb181, 0, none⟩ = some (.int .i64 a0_0) := (blk_cell BK181.out 0).trans rfl; have hcz15_1 : w14.cell? ⟨gb181, 1, none⟩ = some (.int .i64 a0_1) := (blk_cell BK181.out 1).trans rfl; have hcz15_2 : w14.cell? ⟨gb181, 2, none⟩ = some (.int .u32 a0_2) := (blk_cell BK181.out 2).trans rfl; have hcz15_3 : w14.cell? ⟨gb181, 3, none⟩ = some (.int .u32 a0_3) := (blk_cell BK181.out 3).trans rfl; have hcz15_4 : w14.cell? ⟨gb181, 4, none⟩ = some (.int .u32 a0_4) := (blk_cell BK181.out 4).trans rfl; have hcz15_5 : w14.cell? ⟨gb181, 5, none⟩ = some (.int .u32 a0_5) := (blk_cell BK181.out 5).trans rfl; have hcz15_6 : w14.cell? ⟨gb181, 6, none⟩ = some (.int .u32 a0_6) := (blk_cell BK181.out 6).trans rfl; have hcz15_7 : w14.cell? ⟨gb181, 7, none⟩ = some (.int .u32 a0_7) := (blk_cell BK181.out 7).trans rfl; have hcz15_8 : w14.cell? ⟨gb181, 8, none⟩ = some (.int .i64 a0_8) := (blk_cell BK181.out 8).trans rfl; have hfz15_0 := blk_frozen BK181.out 0; have hfz15_1 := blk_frozen BK181.out 1; have hfz15_2 := blk_frozen BK181.out 2; have hfz15_3 := blk_frozen BK181.out 3; have hfz15_4 := blk_frozen BK181.out 4; have hfz15_5 := blk_frozen BK181.out 5; have hfz15_6 := blk_frozen BK181.out 6; have hfz15_7 := blk_frozen BK181.out 7; have hfz15_8 := blk_frozen BK181.out 8))
          go_ret
          exact ⟨by first | rfl | (simp [errW_none, errW_some] <;> rfl) | (simp [*, errW_none, errW_some] <;> rfl), by repeat (first | (with_reducible first | exact HB.out | apply below_alloc | apply pw_below_drewN | apply below_drew1 | refine below_set ?_ GE181.out) | exact HB.out)⟩
        · rw [if_neg c13] at H
          have c13b0 : (a0_8 == 1) = false := beq_eq_false_iff_ne.mpr c13
          have c13b1 : (a0_8 != 1) = true := bne_iff_ne.mpr c13
          by_cases c16 : a0_8 = 2
          · rw [if_pos c16] at H
            have c16b0 : (a0_8 == 2) = true := beq_iff_eq.mpr c16
            have c16b1 : (a0_8 != 2) = false := bne_eq_false_iff_eq.mpr c16
            clear c16
            obtain rfl := Option.some.inj H
            go_enter Try.func11, Try.ntmps11
            go_wp2_with (first | ((with_reducible refine gate_dst (N := 1) rfl ?_); refine box_event ?hg (N := 1) ?hd (cs := #[.int .i64 a0_0, .int .i64 a0_1, .int .u32 a0_2, .int .u32 a0_3, .int .u32 a0_4, .int .u32 a0_5, .int .u32 a0_6, .int .u32 a0_7, .int .i64 a0_8]) (t := 25) ?hr ?_; (case hd => rfl); (case hg => rfl); (case hr => first | (go_simp; done) | (go_simp; rfl)); intro gb181 hg w17 hbox hb; have n0_ := Aside0.mk (below_step (by repeat (first | (with_reducible first | exact HB.out | apply below_alloc | apply pw_below_drewN | apply below_drew1) | exact HB.out)) hb); have n1_ := Aside0.mk (hbox); have n2_ := Aside0.mk ((by rw [hg]; exact (below_size (by repeat (first | (with_reducible first | exact HB.out | apply below_alloc | apply pw_below_drewN | apply below_drew1) | exact HB.out))) : w.heap.size ≤ gb181)); have n3_ := Aside0.mk ((by rw [hg]; exact (below_size (by repeat (first | (with_reducible first | exact HB.out | apply below_alloc | apply pw_below_drewN | apply below_drew1) | exact HB.out))) : w.heap.size ≤ gb181)); clear HB; have HB := n0_; have BK181 := n1_; have GW181 := n2_; have GE181 := n3_; clear n0_ n1_ n2_ n3_; clear hb hbox hg; have hcz18_0 : w17.cell? ⟨gb181, 0, none⟩ = some (.int .i64 a0_0) := (blk_cell BK181.out 0).trans rfl; have hcz18_1 : w17.cell? ⟨gb181, 1, none⟩ = some (.int .i64 a0_1) := (blk_cell BK181.out 1).trans rfl; have hcz18_2 : w17.cell? ⟨gb181, 2, none⟩ = some (.int .u32 a0_2) := (blk_cell BK181.out 2).trans rfl; have hcz18_3 : w17.cell? ⟨gb181, 3, none⟩ = some (.int .u32 a0_3) := (blk_cell BK181.out 3).trans rfl; have hcz18_4 : w17.cell? ⟨gb181, 4, none⟩ = some (.int .u32 a0_4) := (blk_cell BK181.out 4).trans rfl; have hcz18_5 : w17.cell? ⟨gb181, 5, none⟩ = some (.int .u32 a0_5) := (blk_cell BK181.out 5).trans rfl; have hcz18_6 : w17.cell? ⟨gb181, 6, none⟩ = some (.int .u32 a0_6) := (blk_cell BK181.out 6).trans rfl; have hcz18_7 : w17.cell? ⟨gb181, 7, none⟩ = some (.int .u32 a0_7) := (blk_cell BK181.out 7).trans rfl; have hcz18_8 : w17.cell? ⟨gb181, 8, none⟩ = some (.int .i64 a0_8) := (blk_cell BK181.out 8).trans rfl; have hfz18_0 := blk_frozen BK181.out 0; have hfz18_1 := blk_frozen BK181.out 1; have hfz18_2 := blk_frozen BK181.out 2; have hfz18_3 := blk_frozen BK181.out 3; have hfz18_4 := blk_frozen BK181.out 4; have hfz18_5 := blk_frozen BK181.out 5; have hfz18_6 := blk_frozen BK181.out 6; have hfz18_7 := blk_frozen BK181.out 7; have hfz18_8 := blk_frozen BK181.out 8))
            go_ret
            exact ⟨by first | rfl | (simp [errW_none, errW_some] <;> rfl) | (simp [*, errW_none, errW_some] <;> rfl), by repeat (first | (with_reducible first | exact HB.out | apply below_alloc | apply pw_below_drewN | apply below_drew1 | refine below_set ?_ GE181.out) | exact HB.out)⟩
          · rw [if_neg c16] at H
            have c16b0 : (a0_8 == 2) = false := beq_eq_false_iff_ne.mpr c16
            have c16b1 : (a0_8 != 2) = true := bne_iff_ne.mpr c16
            obtain rfl := Option.some.inj H
            go_enter Try.func11, Try.ntmps11
            go_wp2_with (first | ((with_reducible refine gate_dst (N := 1) rfl ?_); refine box_event ?hg (N := 1) ?hd (cs := #[.int .i64 a0_0, .int .i64 a0_1, .int .u32 a0_2, .int .u32 a0_3, .int .u32 a0_4, .int .u32 a0_5, .int .u32 a0_6, .int .u32 a0_7, .int .i64 a0_8]) (t := 25) ?hr ?_; (case hd => rfl); (case hg => rfl); (case hr => first | (go_simp; done) | (go_simp; rfl)); intro gb181 hg w19 hbox hb; have n0_ := Aside0.mk (below_step (by repeat (first | (with_reducible first | exact HB.out | apply below_alloc | apply pw_below_drewN | apply below_drew1) | exact HB.out)) hb); have n1_ := Aside0.mk (hbox); have n2_ := Aside0.mk ((by rw [hg]; exact (below_size (by repeat (first | (with_reducible first | exact HB.out | apply below_alloc | apply pw_below_drewN | apply below_drew1) | exact HB.out))) : w.heap.size ≤ gb181)); have n3_ := Aside0.mk ((by rw [hg]; exact (below_size (by repeat (first | (with_reducible first | exact HB.out | apply below_alloc | apply pw_below_drewN | apply below_drew1) | exact HB.out))) : w.heap.size ≤ gb181)); clear HB; have HB := n0_; have BK181 := n1_; have GW181 := n2_; have GE181 := n3_; clear n0_ n1_ n2_ n3_; clear hb hbox hg; have hcz20_0 : w19.cell? ⟨gb181, 0, none⟩ = some (.int .i64 a0_0) := (blk_cell BK181.out 0).trans rfl; have hcz20_1 : w19.cell? ⟨gb181, 1, none⟩ = some (.int .i64 a0_1) := (blk_cell BK181.out 1).trans rfl; have hcz20_2 : w19.cell? ⟨gb181, 2, none⟩ = some (.int .u32 a0_2) := (blk_cell BK181.out 2).trans rfl; have hcz20_3 : w19.cell? ⟨gb181, 3, none⟩ = some (.int .u32 a0_3) := (blk_cell BK181.out 3).trans rfl; have hcz20_4 : w19.cell? ⟨gb181, 4, none⟩ = some (.int .u32 a0_4) := (blk_cell BK181.out 4).trans rfl; have hcz20_5 : w19.cell? ⟨gb181, 5, none⟩ = some (.int .u32 a0_5) := (blk_cell BK181.out 5).trans rfl; have hcz20_6 : w19.cell? ⟨gb181, 6, none⟩ = some (.int .u32 a0_6) := (blk_cell BK181.out 6).trans rfl; have hcz20_7 : w19.cell? ⟨gb181, 7, none⟩ = some (.int .u32 a0_7) := (blk_cell BK181.out 7).trans rfl; have hcz20_8 : w19.cell? ⟨gb181, 8, none⟩ = some (.int .i64 a0_8) := (blk_cell BK181.out 8).trans rfl; have hfz20_0 := blk_frozen BK181.out 0; have hfz20_1 := blk_frozen BK181.out 1; have hfz20_2 := blk_frozen BK181.out 2; have hfz20_3 := blk_frozen BK181.out 3; have hfz20_4 := blk_frozen BK181.out 4; have hfz20_5 := blk_frozen BK181.out 5; have hfz20_6 := blk_frozen BK181.out 6; have hfz20_7 := blk_frozen BK181.out 7; have hfz20_8 := blk_frozen BK181.out 8))
            go_ret
            exact ⟨by first | rfl | (simp [errW_none, errW_some] <;> rfl) | (simp [*, errW_none, errW_some] <;> rfl), by repeat (first | (with_reducible first | exact HB.out | apply below_alloc | apply pw_below_drewN | apply below_drew1 | refine below_set ?_ GE181.out) | exact HB.out)⟩
      · rw [if_neg c12] at H
        have c12b0 : (a0_1 == 2) = false := beq_eq_false_iff_ne.mpr c12
        have c12b1 : (a0_1 != 2) = true := bne_iff_ne.mpr c12
        obtain rfl := Option.some.inj H
        go_enter Try.func11, Try.ntmps11
        go_wp2_with (first | ((with_reducible refine gate_dst (N := 1) rfl ?_); refine box_event ?hg (N := 1) ?hd (cs := #[.int .i64 a0_0, .int .i64 a0_1, .int .u32 a0_2, .int .u32 a0_3, .int .u32 a0_4, .int .u32 a0_5, .int .u32 a0_6, .int .u32 a0_7, .int .i64 a0_8]) (t := 25) ?hr ?_; (case hd => rfl); (case hg => rfl); (case hr => first | (go_simp; done) | (go_simp; rfl)); intro gb181 hg w21 hbox hb; have n0_ := Aside0.mk (below_step (by repeat (first | (with_reducible first | exact HB.out | apply below_alloc | apply pw_below_drewN | apply below_drew1) | exact HB.out)) hb); have n1_ := Aside0.mk (hbox); have n2_ := Aside0.mk ((by rw [hg]; exact (below_size (by repeat (first | (with_reducible first | exact HB.out | apply below_alloc | apply pw_below_drewN | apply below_drew1) | exact HB.out))) : w.heap.size ≤ gb181)); have n3_ := Aside0.mk ((by rw [hg]; exact (below_size (by repeat (first | (with_reducible first | exact HB.out | apply below_alloc | apply pw_below_drewN | apply below_drew1) | exact HB.out))) : w.heap.size ≤ gb181)); clear HB; have HB := n0_; have BK181 := n1_; have GW181 := n2_; have GE181 := n3_; clear n0_ n1_ n2_ n3_; clear hb hbox hg; have hcz22_0 : w21.cell? ⟨gb181, 0, none⟩ = some (.int .i64 a0_0) := (blk_cell BK181.out 0).trans rfl; have hcz22_1 : w21.cell? ⟨gb181, 1, none⟩ = some (.int .i64 a0_1) := (blk_cell BK181.out 1).trans rfl; have hcz22_2 : w21.cell? ⟨gb181, 2, none⟩ = some (.int .u32 a0_2) := (blk_cell BK181.out 2).trans rfl; have hcz22_3 : w21.cell? ⟨gb181, 3, none⟩ = some (.int .u32 a0_3) := (blk_cell BK181.out 3).trans rfl; have hcz22_4 : w21.cell? ⟨gb181, 4, none⟩ = some (.int .u32 a0_4) := (blk_cell BK181.out 4).trans rfl; have hcz22_5 : w21.cell? ⟨gb181, 5, none⟩ = some (.int .u32 a0_5) := (blk_cell BK181.out 5).trans rfl; have hcz22_6 : w21.cell? ⟨gb181, 6, none⟩ = some (.int .u32 a0_6) := (blk_cell BK181.out 6).trans rfl; have hcz22_7 : w21.cell? ⟨gb181, 7, none⟩ = some (.int .u32 a0_7) := (blk_cell BK181.out 7).trans rfl; have hcz22_8 : w21.cell? ⟨gb181, 8, none⟩ = some (.int .i64 a0_8) := (blk_cell BK181.out 8).trans rfl; have hfz22_0 := blk_frozen BK181.out 0; have hfz22_1 := blk_frozen BK181.out 1; have hfz22_2 := blk_frozen BK181.out 2; have hfz22_3 := blk_frozen BK181.out 3; have hfz22_4 := blk_frozen BK181.out 4; have hfz22_5 := blk_frozen BK181.out 5; have hfz22_6 := blk_frozen BK181.out 6; have hfz22_7 := blk_frozen BK181.out 7; have hfz22_8 := blk_frozen BK181.out 8))
        go_ret
        exact ⟨by first | rfl | (simp [errW_none, errW_some] <;> rfl) | (simp [*, errW_none, errW_some] <;> rfl), by repeat (first | (with_reducible first | exact HB.out | apply below_alloc | apply pw_below_drewN | apply below_drew1 | refine below_set ?_ GE181.out) | exact HB.out)⟩
  · rw [if_neg c2] at H
    have c2b0 : (a0_0 == 1) = false := beq_eq_false_iff_ne.mpr c2
    have c2b1 : (a0_0 != 1) = true := bne_iff_ne.mpr c2
    by_cases c23 : a0_0 = 2
    · rw [if_pos c23] at H
      have c23b0 : (a0_0 == 2) = true := beq_iff_eq.mpr c23
      have c23b1 : (a0_0 != 2) = false := bne_eq_false_iff_eq.mpr c23
      clear c23
      by_cases c24 : a0_1 = 1
      · rw [if_pos c24] at H
        have c24b0 : (a0_1 == 1) = true := beq_iff_eq.mpr c24
        have c24b1 : (a0_1 != 1) = false := bne_eq_false_iff_eq.mpr c24
        clear c24
        by_cases c25 : a0_8 = 1
        · rw [if_pos c25] at H
          have c25b0 : (a0_8 == 1) = true := beq_iff_eq.mpr c25
          have c25b1 : (a0_8 != 1) = false := bne_eq_false_iff_eq.mpr c25
          clear c25
          obtain rfl := Option.some.inj H
          go_enter Try.func11, Try.ntmps11
          go_wp2_with (first | ((with_reducible refine gate_dst (N := 1) rfl ?_); refine box_event ?hg (N := 1) ?hd (cs := #[.int .i64 a0_0, .int .i64 a0_1, .int .u32 a0_2, .int .u32 a0_3, .int .u32 a0_4, .int .u32 a0_5, .int .u32 a0_6, .int .u32 a0_7, .int .i64 a0_8]) (t := 25) ?hr ?_; (case hd => rfl); (case hg => rfl); (case hr => first | (go_simp; done) | (go_simp; rfl)); intro gb181 hg w26 hbox hb; have n0_ := Aside0.mk (below_step (by repeat (first | (with_reducible first | exact HB.out | apply below_alloc | apply pw_below_drewN | apply below_drew1) | exact HB.out)) hb); have n1_ := Aside0.mk (hbox); have n2_ := Aside0.mk ((by rw [hg]; exact (below_size (by repeat (first | (with_reducible first | exact HB.out | apply below_alloc | apply pw_below_drewN | apply below_drew1) | exact HB.out))) : w.heap.size ≤ gb181)); have n3_ := Aside0.mk ((by rw [hg]; exact (below_size (by repeat (first | (with_reducible first | exact HB.out | apply below_alloc | apply pw_below_drewN | apply below_drew1) | exact HB.out))) : w.heap.size ≤ gb181)); clear HB; have HB := n0_; have BK181 := n1_; have GW181 := n2_; have GE181 := n3_; clear n0_ n1_ n2_ n3_; clear hb hbox hg; have hcz27_0 : w26.cell? ⟨gb181, 0, none⟩ = some (.int .i64 a0_0) := (blk_cell BK181.out 0).trans rfl; have hcz27_1 : w26.cell? ⟨gb181, 1, none⟩ = some (.int .i64 a0_1) := (blk_cell BK181.out 1).trans rfl; have hcz27_2 : w26.cell? ⟨gb181, 2, none⟩ = some (.int .u32 a0_2) := (blk_cell BK181.out 2).trans rfl; have hcz27_3 : w26.cell? ⟨gb181, 3, none⟩ = some (.int .u32 a0_3) := (blk_cell BK181.out 3).trans rfl; have hcz27_4 : w26.cell? ⟨gb181, 4, none⟩ = some (.int .u32 a0_4) := (blk_cell BK181.out 4).trans rfl; have hcz27_5 : w26.cell? ⟨gb181, 5, none⟩ = some (.int .u32 a0_5) := (blk_cell BK181.out 5).trans rfl; have hcz27_6 : w26.cell? ⟨gb181, 6, none⟩ = some (.int .u32 a0_6) := (blk_cell BK181.out 6).trans rfl; have hcz27_7 : w26.cell? ⟨gb181, 7, none⟩ = some (.int .u32 a0_7) := (blk_cell BK181.out 7).trans rfl; have hcz27_8 : w26.cell? ⟨gb181, 8, none⟩ = some (.int .i64 a0_8) := (blk_cell BK181.out 8).trans rfl; have hfz27_0 := blk_frozen BK181.out 0; have hfz27_1 := blk_frozen BK181.out 1; have hfz27_2 := blk_frozen BK181.out 2; have hfz27_3 := blk_frozen BK181.out 3; have hfz27_4 := blk_frozen BK181.out 4; have hfz27_5 := blk_frozen BK181.out 5; have hfz27_6 := blk_frozen BK181.out 6; have hfz27_7 := blk_frozen BK181.out 7; have hfz27_8 := blk_frozen BK181.out 8))
          go_ret
          exact ⟨by first | rfl | (simp [errW_none, errW_some] <;> rfl) | (simp [*, errW_none, errW_some] <;> rfl), by repeat (first | (with_reducible first | exact HB.out | apply below_alloc | apply pw_below_drewN | apply below_drew1 | refine below_set ?_ GE181.out) | exact HB.out)⟩
        · rw [if_neg c25] at H
          have c25b0 : (a0_8 == 1) = false := beq_eq_false_iff_ne.mpr c25
          have c25b1 : (a0_8 != 1) = true := bne_iff_ne.mpr c25
          by_cases c28 : a0_8 = 2
          · rw [if_pos c28] at H
            have c28b0 : (a0_8 == 2) = true := beq_iff_eq.mpr c28
            have c28b1 : (a0_8 != 2) = false := bne_eq_false_iff_eq.mpr c28
            clear c28
            obtain rfl := Option.some.inj H
            go_enter Try.func11, Try.ntmps11
            go_wp2_with (first | ((with_reducible refine gate_dst (N := 1) rfl ?_); refine box_event ?hg (N := 1) ?hd (cs := #[.int .i64 a0_0, .int .i64 a0_1, .int .u32 a0_2, .int .u32 a0_3, .int .u32 a0_4, .int .u32 a0_5, .int .u32 a0_6, .int .u32 a0_7, .int .i64 a0_8]) (t := 25) ?hr ?_; (case hd => rfl); (case hg => rfl); (case hr => first | (go_simp; done) | (go_simp; rfl)); intro gb181 hg w29 hbox hb; have n0_ := Aside0.mk (below_step (by repeat (first | (with_reducible first | exact HB.out | apply below_alloc | apply pw_below_drewN | apply below_drew1) | exact HB.out)) hb); have n1_ := Aside0.mk (hbox); have n2_ := Aside0.mk ((by rw [hg]; exact (below_size (by repeat (first | (with_reducible first | exact HB.out | apply below_alloc | apply pw_below_drewN | apply below_drew1) | exact HB.out))) : w.heap.size ≤ gb181)); have n3_ := Aside0.mk ((by rw [hg]; exact (below_size (by repeat (first | (with_reducible first | exact HB.out | apply below_alloc | apply pw_below_drewN | apply below_drew1) | exact HB.out))) : w.heap.size ≤ gb181)); clear HB; have HB := n0_; have BK181 := n1_; have GW181 := n2_; have GE181 := n3_; clear n0_ n1_ n2_ n3_; clear hb hbox hg; have hcz30_0 : w29.cell? ⟨gb181, 0, none⟩ = some (.int .i64 a0_0) := (blk_cell BK181.out 0).trans rfl; have hcz30_1 : w29.cell? ⟨gb181, 1, none⟩ = some (.int .i64 a0_1) := (blk_cell BK181.out 1).trans rfl; have hcz30_2 : w29.cell? ⟨gb181, 2, none⟩ = some (.int .u32 a0_2) := (blk_cell BK181.out 2).trans rfl; have hcz30_3 : w29.cell? ⟨gb181, 3, none⟩ = some (.int .u32 a0_3) := (blk_cell BK181.out 3).trans rfl; have hcz30_4 : w29.cell? ⟨gb181, 4, none⟩ = some (.int .u32 a0_4) := (blk_cell BK181.out 4).trans rfl; have hcz30_5 : w29.cell? ⟨gb181, 5, none⟩ = some (.int .u32 a0_5) := (blk_cell BK181.out 5).trans rfl; have hcz30_6 : w29.cell? ⟨gb181, 6, none⟩ = some (.int .u32 a0_6) := (blk_cell BK181.out 6).trans rfl; have hcz30_7 : w29.cell? ⟨gb181, 7, none⟩ = some (.int .u32 a0_7) := (blk_cell BK181.out 7).trans rfl; have hcz30_8 : w29.cell? ⟨gb181, 8, none⟩ = some (.int .i64 a0_8) := (blk_cell BK181.out 8).trans rfl; have hfz30_0 := blk_frozen BK181.out 0; have hfz30_1 := blk_frozen BK181.out 1; have hfz30_2 := blk_frozen BK181.out 2; have hfz30_3 := blk_frozen BK181.out 3; have hfz30_4 := blk_frozen BK181.out 4; have hfz30_5 := blk_frozen BK181.out 5; have hfz30_6 := blk_frozen BK181.out 6; have hfz30_7 := blk_frozen BK181.out 7; have hfz30_8 := blk_frozen BK181.out 8))
            go_ret
            exact ⟨by first | rfl | (simp [errW_none, errW_some] <;> rfl) | (simp [*, errW_none, errW_some] <;> rfl), by repeat (first | (with_reducible first | exact HB.out | apply below_alloc | apply pw_below_drewN | apply below_drew1 | refine below_set ?_ GE181.out) | exact HB.out)⟩
          · rw [if_neg c28] at H
            have c28b0 : (a0_8 == 2) = false := beq_eq_false_iff_ne.mpr c28
            have c28b1 : (a0_8 != 2) = true := bne_iff_ne.mpr c28
            obtain rfl := Option.some.inj H
            go_enter Try.func11, Try.ntmps11
            go_wp2_with (first | ((with_reducible refine gate_dst (N := 1) rfl ?_); refine box_event ?hg (N := 1) ?hd (cs := #[.int .i64 a0_0, .int .i64 a0_1, .int .u32 a0_2, .int .u32 a0_3, .int .u32 a0_4, .int .u32 a0_5, .int .u32 a0_6, .int .u32 a0_7, .int .i64 a0_8]) (t := 25) ?hr ?_; (case hd => rfl); (case hg => rfl); (case hr => first | (go_simp; done) | (go_simp; rfl)); intro gb181 hg w31 hbox hb; have n0_ := Aside0.mk (below_step (by repeat (first | (with_reducible first | exact HB.out | apply below_alloc | apply pw_below_drewN | apply below_drew1) | exact HB.out)) hb); have n1_ := Aside0.mk (hbox); have n2_ := Aside0.mk ((by rw [hg]; exact (below_size (by repeat (first | (with_reducible first | exact HB.out | apply below_alloc | apply pw_below_drewN | apply below_drew1) | exact HB.out))) : w.heap.size ≤ gb181)); have n3_ := Aside0.mk ((by rw [hg]; exact (below_size (by repeat (first | (with_reducible first | exact HB.out | apply below_alloc | apply pw_below_drewN | apply below_drew1) | exact HB.out))) : w.heap.size ≤ gb181)); clear HB; have HB := n0_; have BK181 := n1_; have GW181 := n2_; have GE181 := n3_; clear n0_ n1_ n2_ n3_; clear hb hbox hg; have hcz32_0 : w31.cell? ⟨gb181, 0, none⟩ = some (.int .i64 a0_0) := (blk_cell BK181.out 0).trans rfl; have hcz32_1 : w31.cell? ⟨gb181, 1, none⟩ = some (.int .i64 a0_1) := (blk_cell BK181.out 1).trans rfl; have hcz32_2 : w31.cell? ⟨gb181, 2, none⟩ = some (.int .u32 a0_2) := (blk_cell BK181.out 2).trans rfl; have hcz32_3 : w31.cell? ⟨gb181, 3, none⟩ = some (.int .u32 a0_3) := (blk_cell BK181.out 3).trans rfl; have hcz32_4 : w31.cell? ⟨gb181, 4, none⟩ = some (.int .u32 a0_4) := (blk_cell BK181.out 4).trans rfl; have hcz32_5 : w31.cell? ⟨gb181, 5, none⟩ = some (.int .u32 a0_5) := (blk_cell BK181.out 5).trans rfl; have hcz32_6 : w31.cell? ⟨gb181, 6, none⟩ = some (.int .u32 a0_6) := (blk_cell BK181.out 6).trans rfl; have hcz32_7 : w31.cell? ⟨gb181, 7, none⟩ = some (.int .u32 a0_7) := (blk_cell BK181.out 7).trans rfl; have hcz32_8 : w31.cell? ⟨gb181, 8, none⟩ = some (.int .i64 a0_8) := (blk_cell BK181.out 8).trans rfl; have hfz32_0 := blk_frozen BK181.out 0; have hfz32_1 := blk_frozen BK181.out 1; have hfz32_2 := blk_frozen BK181.out 2; have hfz32_3 := blk_frozen BK181.out 3; have hfz32_4 := blk_frozen BK181.out 4; have hfz32_5 := blk_frozen BK181.out 5; have hfz32_6 := blk_frozen BK181.out 6; have hfz32_7 := blk_frozen BK181.out 7; have hfz32_8 := blk_frozen BK181.out 8))
            go_ret
            exact ⟨by first | rfl | (simp [errW_none, errW_some] <;> rfl) | (simp [*, errW_none, errW_some] <;> rfl), by repeat (first | (with_reducible first | exact HB.out | apply below_alloc | apply pw_below_drewN | apply below_drew1 | refine below_set ?_ GE181.out) | exact HB.out)⟩
      · rw [if_neg c24] at H
        have c24b0 : (a0_1 == 1) = false := beq_eq_false_iff_ne.mpr c24
        have c24b1 : (a0_1 != 1) = true := bne_iff_ne.mpr c24
        by_cases c33 : a0_1 = 2
        · rw [if_pos c33] at H
          have c33b0 : (a0_1 == 2) = true := beq_iff_eq.mpr c33
          have c33b1 : (a0_1 != 2) = false := bne_eq_false_iff_eq.mpr c33
          clear c33
          by_cases c34 : a0_8 = 1
          · rw [if_pos c34] at H
            have c34b0 : (a0_8 == 1) = true := beq_iff_eq.mpr c34
            have c34b1 : (a0_8 != 1) = false := bne_eq_false_iff_eq.mpr c34
            clear c34
            obtain rfl := Option.some.inj H
            go_enter Try.func11, Try.ntmps11
            go_wp2_with (first | ((with_reducible refine gate_dst (N := 1) rfl ?_); refine box_event ?hg (N := 1) ?hd (cs := #[.int .i64 a0_0, .int .i64 a0_1, .int .u32 a0_2, .int .u32 a0_3, .int .u32 a0_4, .int .u32 a0_5, .int .u32 a0_6, .int .u32 a0_7, .int .i64 a0_8]) (t := 25) ?hr ?_; (case hd => rfl); (case hg => rfl); (case hr => first | (go_simp; done) | (go_simp; rfl)); intro gb181 hg w35 hbox hb; have n0_ := Aside0.mk (below_step (by repeat (first | (with_reducible first | exact HB.out | apply below_alloc | apply pw_below_drewN | apply below_drew1) | exact HB.out)) hb); have n1_ := Aside0.mk (hbox); have n2_ := Aside0.mk ((by rw [hg]; exact (below_size (by repeat (first | (with_reducible first | exact HB.out | apply below_alloc | apply pw_below_drewN | apply below_drew1) | exact HB.out))) : w.heap.size ≤ gb181)); have n3_ := Aside0.mk ((by rw [hg]; exact (below_size (by repeat (first | (with_reducible first | exact HB.out | apply below_alloc | apply pw_below_drewN | apply below_drew1) | exact HB.out))) : w.heap.size ≤ gb181)); clear HB; have HB := n0_; have BK181 := n1_; have GW181 := n2_; have GE181 := n3_; clear n0_ n1_ n2_ n3_; clear hb hbox hg; have hcz36_0 : w35.cell? ⟨gb181, 0, none⟩ = some (.int .i64 a0_0) := (blk_cell BK181.out 0).trans rfl; have hcz36_1 : w35.cell? ⟨gb181, 1, none⟩ = some (.int .i64 a0_1) := (blk_cell BK181.out 1).trans rfl; have hcz36_2 : w35.cell? ⟨gb181, 2, none⟩ = some (.int .u32 a0_2) := (blk_cell BK181.out 2).trans rfl; have hcz36_3 : w35.cell? ⟨gb181, 3, none⟩ = some (.int .u32 a0_3) := (blk_cell BK181.out 3).trans rfl; have hcz36_4 : w35.cell? ⟨gb181, 4, none⟩ = some (.int .u32 a0_4) := (blk_cell BK181.out 4).trans rfl; have hcz36_5 : w35.cell? ⟨gb181, 5, none⟩ = some (.int .u32 a0_5) := (blk_cell BK181.out 5).trans rfl; have hcz36_6 : w35.cell? ⟨gb181, 6, none⟩ = some (.int .u32 a0_6) := (blk_cell BK181.out 6).trans rfl; have hcz36_7 : w35.cell? ⟨gb181, 7, none⟩ = some (.int .u32 a0_7) := (blk_cell BK181.out 7).trans rfl; have hcz36_8 : w35.cell? ⟨gb181, 8, none⟩ = some (.int .i64 a0_8) := (blk_cell BK181.out 8).trans rfl; have hfz36_0 := blk_frozen BK181.out 0; have hfz36_1 := blk_frozen BK181.out 1; have hfz36_2 := blk_frozen BK181.out 2; have hfz36_3 := blk_frozen BK181.out 3; have hfz36_4 := blk_frozen BK181.out 4; have hfz36_5 := blk_frozen BK181.out 5; have hfz36_6 := blk_frozen BK181.out 6; have hfz36_7 := blk_frozen BK181.out 7; have hfz36_8 := blk_frozen BK181.out 8))
            go_ret
            exact ⟨by first | rfl | (simp [errW_none, errW_some] <;> rfl) | (simp [*, errW_none, errW_some] <;> rfl), by repeat (first | (with_reducible first | exact HB.out | apply below_alloc | apply pw_below_drewN | apply below_drew1 | refine below_set ?_ GE181.out) | exact HB.out)⟩
          · rw [if_neg c34] at H
            have c34b0 : (a0_8 == 1) = false := beq_eq_false_iff_ne.mpr c34
            have c34b1 : (a0_8 != 1) = true := bne_iff_ne.mpr c34
            by_cases c37 : a0_8 = 2
            · rw [if_pos c37] at H
              have c37b0 : (a0_8 == 2) = true := beq_iff_eq.mpr c37
              have c37b1 : (a0_8 != 2) = false := bne_eq_false_iff_eq.mpr c37
              clear c37
              obtain rfl := Option.some.inj H
              go_enter Try.func11, Try.ntmps11
              go_wp2_with (first | ((with_reducible refine gate_dst (N := 1) rfl ?_); refine box_event ?hg (N := 1) ?hd (cs := #[.int .i64 a0_0, .int .i64 a0_1, .int .u32 a0_2, .int .u32 a0_3, .int .u32 a0_4, .int .u32 a0_5, .int .u32 a0_6, .int .u32 a0_7, .int .i64 a0_8]) (t := 25) ?hr ?_; (case hd => rfl); (case hg => rfl); (case hr => first | (go_simp; done) | (go_simp; rfl)); intro gb181 hg w38 hbox hb; have n0_ := Aside0.mk (below_step (by repeat (first | (with_reducible first | exact HB.out | apply below_alloc | apply pw_below_drewN | apply below_drew1) | exact HB.out)) hb); have n1_ := Aside0.mk (hbox); have n2_ := Aside0.mk ((by rw [hg]; exact (below_size (by repeat (first | (with_reducible first | exact HB.out | apply below_alloc | apply pw_below_drewN | apply below_drew1) | exact HB.out))) : w.heap.size ≤ gb181)); have n3_ := Aside0.mk ((by rw [hg]; exact (below_size (by repeat (first | (with_reducible first | exact HB.out | apply below_alloc | apply pw_below_drewN | apply below_drew1) | exact HB.out))) : w.heap.size ≤ gb181)); clear HB; have HB := n0_; have BK181 := n1_; have GW181 := n2_; have GE181 := n3_; clear n0_ n1_ n2_ n3_; clear hb hbox hg; have hcz39_0 : w38.cell? ⟨gb181, 0, none⟩ = some (.int .i64 a0_0) := (blk_cell BK181.out 0).trans rfl; have hcz39_1 : w38.cell? ⟨gb181, 1, none⟩ = some (.int .i64 a0_1) := (blk_cell BK181.out 1).trans rfl; have hcz39_2 : w38.cell? ⟨gb181, 2, none⟩ = some (.int .u32 a0_2) := (blk_cell BK181.out 2).trans rfl; have hcz39_3 : w38.cell? ⟨gb181, 3, none⟩ = some (.int .u32 a0_3) := (blk_cell BK181.out 3).trans rfl; have hcz39_4 : w38.cell? ⟨gb181, 4, none⟩ = some (.int .u32 a0_4) := (blk_cell BK181.out 4).trans rfl; have hcz39_5 : w38.cell? ⟨gb181, 5, none⟩ = some (.int .u32 a0_5) := (blk_cell BK181.out 5).trans rfl; have hcz39_6 : w38.cell? ⟨gb181, 6, none⟩ = some (.int .u32 a0_6) := (blk_cell BK181.out 6).trans rfl; have hcz39_7 : w38.cell? ⟨gb181, 7, none⟩ = some (.int .u32 a0_7) := (blk_cell BK181.out 7).trans rfl; have hcz39_8 : w38.cell? ⟨gb181, 8, none⟩ = some (.int .i64 a0_8) := (blk_cell BK181.out 8).trans rfl; have hfz39_0 := blk_frozen BK181.out 0; have hfz39_1 := blk_frozen BK181.out 1; have hfz39_2 := blk_frozen BK181.out 2; have hfz39_3 := blk_frozen BK181.out 3; have hfz39_4 := blk_frozen BK181.out 4; have hfz39_5 := blk_frozen BK181.out 5; have hfz39_6 := blk_frozen BK181.out 6; have hfz39_7 := blk_frozen BK181.out 7; have hfz39_8 := blk_frozen BK181.out 8))
              go_ret
              exact ⟨by first | rfl | (simp [errW_none, errW_some] <;> rfl) | (simp [*, errW_none, errW_some] <;> rfl), by repeat (first | (with_reducible first | exact HB.out | apply below_alloc | apply pw_below_drewN | apply below_drew1 | refine below_set ?_ GE181.out) | exact HB.out)⟩
            · rw [if_neg c37] at H
              have c37b0 : (a0_8 == 2) = false := beq_eq_false_iff_ne.mpr c37
              have c37b1 : (a0_8 != 2) = true := bne_iff_ne.mpr c37
              obtain rfl := Option.some.inj H
              go_enter Try.func11, Try.ntmps11
              go_wp2_with (first | ((with_reducible refine gate_dst (N := 1) rfl ?_); refine box_event ?hg (N := 1) ?hd (cs := #[.int .i64 a0_0, .int .i64 a0_1, .int .u32 a0_2, .int .u32 a0_3, .int .u32 a0_4, .int .u32 a0_5, .int .u32 a0_6, .int .u32 a0_7, .int .i64 a0_8]) (t := 25) ?hr ?_; (case hd => rfl); (case hg => rfl); (case hr => first | (go_simp; done) | (go_simp; rfl)); intro gb181 hg w40 hbox hb; have n0_ := Aside0.mk (below_step (by repeat (first | (with_reducible first | exact HB.out | apply below_alloc | apply pw_below_drewN | apply below_drew1) | exact HB.out)) hb); have n1_ := Aside0.mk (hbox); have n2_ := Aside0.mk ((by rw [hg]; exact (below_size (by repeat (first | (with_reducible first | exact HB.out | apply below_alloc | apply pw_below_drewN | apply below_drew1) | exact HB.out))) : w.heap.size ≤ gb181)); have n3_ := Aside0.mk ((by rw [hg]; exact (below_size (by repeat (first | (with_reducible first | exact HB.out | apply below_alloc | apply pw_below_drewN | apply below_drew1) | exact HB.out))) : w.heap.size ≤ gb181)); clear HB; have HB := n0_; have BK181 := n1_; have GW181 := n2_; have GE181 := n3_; clear n0_ n1_ n2_ n3_; clear hb hbox hg; have hcz41_0 : w40.cell? ⟨gb181, 0, none⟩ = some (.int .i64 a0_0) := (blk_cell BK181.out 0).trans rfl; have hcz41_1 : w40.cell? ⟨gb181, 1, none⟩ = some (.int .i64 a0_1) := (blk_cell BK181.out 1).trans rfl; have hcz41_2 : w40.cell? ⟨gb181, 2, none⟩ = some (.int .u32 a0_2) := (blk_cell BK181.out 2).trans rfl; have hcz41_3 : w40.cell? ⟨gb181, 3, none⟩ = some (.int .u32 a0_3) := (blk_cell BK181.out 3).trans rfl; have hcz41_4 : w40.cell? ⟨gb181, 4, none⟩ = some (.int .u32 a0_4) := (blk_cell BK181.out 4).trans rfl; have hcz41_5 : w40.cell? ⟨gb181, 5, none⟩ = some (.int .u32 a0_5) := (blk_cell BK181.out 5).trans rfl; have hcz41_6 : w40.cell? ⟨gb181, 6, none⟩ = some (.int .u32 a0_6) := (blk_cell BK181.out 6).trans rfl; have hcz41_7 : w40.cell? ⟨gb181, 7, none⟩ = some (.int .u32 a0_7) := (blk_cell BK181.out 7).trans rfl; have hcz41_8 : w40.cell? ⟨gb181, 8, none⟩ = some (.int .i64 a0_8) := (blk_cell BK181.out 8).trans rfl; have hfz41_0 := blk_frozen BK181.out 0; have hfz41_1 := blk_frozen BK181.out 1; have hfz41_2 := blk_frozen BK181.out 2; have hfz41_3 := blk_frozen BK181.out 3; have hfz41_4 := blk_frozen BK181.out 4; have hfz41_5 := blk_frozen BK181.out 5; have hfz41_6 := blk_frozen BK181.out 6; have hfz41_7 := blk_frozen BK181.out 7; have hfz41_8 := blk_frozen BK181.out 8))
              go_ret
              exact ⟨by first | rfl | (simp [errW_none, errW_some] <;> rfl) | (simp [*, errW_none, errW_some] <;> rfl), by repeat (first | (with_reducible first | exact HB.out | apply below_alloc | apply pw_below_drewN | apply below_drew1 | refine below_set ?_ GE181.out) | exact HB.out)⟩
        · rw [if_neg c33] at H
          have c33b0 : (a0_1 == 2) = false := beq_eq_false_iff_ne.mpr c33
          have c33b1 : (a0_1 != 2) = true := bne_iff_ne.mpr c33
          obtain rfl := Option.some.inj H
          go_enter Try.func11, Try.ntmps11
          go_wp2_with (first | ((with_reducible refine gate_dst (N := 1) rfl ?_); refine box_event ?hg (N := 1) ?hd (cs := #[.int .i64 a0_0, .int .i64 a0_1, .int .u32 a0_2, .int .u32 a0_3, .int .u32 a0_4, .int .u32 a0_5, .int .u32 a0_6, .int .u32 a0_7, .int .i64 a0_8]) (t := 25) ?hr ?_; (case hd => rfl); (case hg => rfl); (case hr => first | (go_simp; done) | (go_simp; rfl)); intro gb181 hg w42 hbox hb; have n0_ := Aside0.mk (below_step (by repeat (first | (with_reducible first | exact HB.out | apply below_alloc | apply pw_below_drewN | apply below_drew1) | exact HB.out)) hb); have n1_ := Aside0.mk (hbox); have n2_ := Aside0.mk ((by rw [hg]; exact (below_size (by repeat (first | (with_reducible first | exact HB.out | apply below_alloc | apply pw_below_drewN | apply below_drew1) | exact HB.out))) : w.heap.size ≤ gb181)); have n3_ := Aside0.mk ((by rw [hg]; exact (below_size (by repeat (first | (with_reducible first | exact HB.out | apply below_alloc | apply pw_below_drewN | apply below_drew1) | exact HB.out))) : w.heap.size ≤ gb181)); clear HB; have HB := n0_; have BK181 := n1_; have GW181 := n2_; have GE181 := n3_; clear n0_ n1_ n2_ n3_; clear hb hbox hg; have hcz43_0 : w42.cell? ⟨gb181, 0, none⟩ = some (.int .i64 a0_0) := (blk_cell BK181.out 0).trans rfl; have hcz43_1 : w42.cell? ⟨gb181, 1, none⟩ = some (.int .i64 a0_1) := (blk_cell BK181.out 1).trans rfl; have hcz43_2 : w42.cell? ⟨gb181, 2, none⟩ = some (.int .u32 a0_2) := (blk_cell BK181.out 2).trans rfl; have hcz43_3 : w42.cell? ⟨gb181, 3, none⟩ = some (.int .u32 a0_3) := (blk_cell BK181.out 3).trans rfl; have hcz43_4 : w42.cell? ⟨gb181, 4, none⟩ = some (.int .u32 a0_4) := (blk_cell BK181.out 4).trans rfl; have hcz43_5 : w42.cell? ⟨gb181, 5, none⟩ = some (.int .u32 a0_5) := (blk_cell BK181.out 5).trans rfl; have hcz43_6 : w42.cell? ⟨gb181, 6, none⟩ = some (.int .u32 a0_6) := (blk_cell BK181.out 6).trans rfl; have hcz43_7 : w42.cell? ⟨gb181, 7, none⟩ = some (.int .u32 a0_7) := (blk_cell BK181.out 7).trans rfl; have hcz43_8 : w42.cell? ⟨gb181, 8, none⟩ = some (.int .i64 a0_8) := (blk_cell BK181.out 8).trans rfl; have hfz43_0 := blk_frozen BK181.out 0; have hfz43_1 := blk_frozen BK181.out 1; have hfz43_2 := blk_frozen BK181.out 2; have hfz43_3 := blk_frozen BK181.out 3; have hfz43_4 := blk_frozen BK181.out 4; have hfz43_5 := blk_frozen BK181.out 5; have hfz43_6 := blk_frozen BK181.out 6; have hfz43_7 := blk_frozen BK181.out 7; have hfz43_8 := blk_frozen BK181.out 8))
          go_ret
          exact ⟨by first | rfl | (simp [errW_none, errW_some] <;> rfl) | (simp [*, errW_none, errW_some] <;> rfl), by repeat (first | (with_reducible first | exact HB.out | apply below_alloc | apply pw_below_drewN | apply below_drew1 | refine below_set ?_ GE181.out) | exact HB.out)⟩
    · rw [if_neg c23] at H
      have c23b0 : (a0_0 == 2) = false := beq_eq_false_iff_ne.mpr c23
      have c23b1 : (a0_0 != 2) = true := bne_iff_ne.mpr c23
      obtain rfl := Option.some.inj H
      go_enter Try.func11, Try.ntmps11
      go_wp2_with (first | ((with_reducible refine gate_dst (N := 1) rfl ?_); refine box_event ?hg (N := 1) ?hd (cs := #[.int .i64 a0_0, .int .i64 a0_1, .int .u32 a0_2, .int .u32 a0_3, .int .u32 a0_4, .int .u32 a0_5, .int .u32 a0_6, .int .u32 a0_7, .int .i64 a0_8]) (t := 25) ?hr ?_; (case hd => rfl); (case hg => rfl); (case hr => first | (go_simp; done) | (go_simp; rfl)); intro gb181 hg w44 hbox hb; have n0_ := Aside0.mk (below_step (by repeat (first | (with_reducible first | exact HB.out | apply below_alloc | apply pw_below_drewN | apply below_drew1) | exact HB.out)) hb); have n1_ := Aside0.mk (hbox); have n2_ := Aside0.mk ((by rw [hg]; exact (below_size (by repeat (first | (with_reducible first | exact HB.out | apply below_alloc | apply pw_below_drewN | apply below_drew1) | exact HB.out))) : w.heap.size ≤ gb181)); have n3_ := Aside0.mk ((by rw [hg]; exact (below_size (by repeat (first | (with_reducible first | exact HB.out | apply below_alloc | apply pw_below_drewN | apply below_drew1) | exact HB.out))) : w.heap.size ≤ gb181)); clear HB; have HB := n0_; have BK181 := n1_; have GW181 := n2_; have GE181 := n3_; clear n0_ n1_ n2_ n3_; clear hb hbox hg; have hcz45_0 : w44.cell? ⟨gb181, 0, none⟩ = some (.int .i64 a0_0) := (blk_cell BK181.out 0).trans rfl; have hcz45_1 : w44.cell? ⟨gb181, 1, none⟩ = some (.int .i64 a0_1) := (blk_cell BK181.out 1).trans rfl; have hcz45_2 : w44.cell? ⟨gb181, 2, none⟩ = some (.int .u32 a0_2) := (blk_cell BK181.out 2).trans rfl; have hcz45_3 : w44.cell? ⟨gb181, 3, none⟩ = some (.int .u32 a0_3) := (blk_cell BK181.out 3).trans rfl; have hcz45_4 : w44.cell? ⟨gb181, 4, none⟩ = some (.int .u32 a0_4) := (blk_cell BK181.out 4).trans rfl; have hcz45_5 : w44.cell? ⟨gb181, 5, none⟩ = some (.int .u32 a0_5) := (blk_cell BK181.out 5).trans rfl; have hcz45_6 : w44.cell? ⟨gb181, 6, none⟩ = some (.int .u32 a0_6) := (blk_cell BK181.out 6).trans rfl; have hcz45_7 : w44.cell? ⟨gb181, 7, none⟩ = some (.int .u32 a0_7) := (blk_cell BK181.out 7).trans rfl; have hcz45_8 : w44.cell? ⟨gb181, 8, none⟩ = some (.int .i64 a0_8) := (blk_cell BK181.out 8).trans rfl; have hfz45_0 := blk_frozen BK181.out 0; have hfz45_1 := blk_frozen BK181.out 1; have hfz45_2 := blk_frozen BK181.out 2; have hfz45_3 := blk_frozen BK181.out 3; have hfz45_4 := blk_frozen BK181.out 4; have hfz45_5 := blk_frozen BK181.out 5; have hfz45_6 := blk_frozen BK181.out 6; have hfz45_7 := blk_frozen BK181.out 7; have hfz45_8 := blk_frozen BK181.out 8))
      go_ret
      exact ⟨by first | rfl | (simp [errW_none, errW_some] <;> rfl) | (simp [*, errW_none, errW_some] <;> rfl), by repeat (first | (with_reducible first | exact HB.out | apply below_alloc | apply pw_below_drewN | apply below_drew1 | refine below_set ?_ GE181.out) | exact HB.out)⟩

/-! ### chamberlainref09_Right: function 9 -/
def chamberlainref09_Right.l0 : Nat → List (S25) → Int → Int → Option (Bool)
  | 0, _, _, _ => none
  | k + 1, x0, x1, x5 => if x5 < (x0.length : Int) then (if 0 ≤ x5 then ((chamberlainref09_May.f ((rd_T25 x0 x5).f0) ((rd_T25 x0 x5).f1) ((rd_T25 x0 x5).f2) ((rd_T25 x0 x5).f3) ((rd_T25 x0 x5).f4) ((rd_T25 x0 x5).f5) ((rd_T25 x0 x5).f6) ((rd_T25 x0 x5).f7) ((rd_T25 x0 x5).f8)).bind fun t183 => (if t183 = true then (chamberlainref09_Right.l0 k x0 x1 (wrap64 (x5 + 1))) else (some false))) else (none)) else (some (decide ((x0.length : Int) ≤ x1)))
def chamberlainref09_Right.f (k : Nat) (l0 : List (S25)) (a1 : Int) : Option (Bool) := chamberlainref09_Right.l0 k l0 a1 0
theorem chamberlainref09_Right.mono_l : ∀ k, (∀ y0 y1 y2, LeO (chamberlainref09_Right.l0 k y0 y1 y2) (chamberlainref09_Right.l0 (k + 1) y0 y1 y2))
  | 0 => fun _ _ _ r h => by simp [chamberlainref09_Right.l0] at h
  | k + 1 => by
    have ih0 := chamberlainref09_Right.mono_l k
    · intro y0 y1 y2
      unfold chamberlainref09_Right.l0
      repeat' first
      | (with_reducible exact ih0 _ _ _)
      | (with_reducible exact LeO.refl _)
      | (with_reducible exact LeO.none _)
      | (with_reducible refine LeO.ite ?_ ?_)
      | (with_reducible refine LeO.bind ?_ (fun _ => ?_))
      | exact ih0 _ _ _
      | exact LeO.none _
      | refine LeO.ite ?_ ?_
      | refine LeO.bind ?_ (fun _ => ?_)
theorem chamberlainref09_Right.mono : ∀ a0 a1 k, LeO (chamberlainref09_Right.f k a0 a1) (chamberlainref09_Right.f (k + 1) a0 a1) := by
  intro a0 a1 k
  have ih0 := chamberlainref09_Right.mono_l k
  unfold chamberlainref09_Right.f
  repeat' first
      | (with_reducible exact ih0 _ _ _)
      | (with_reducible exact LeO.refl _)
      | (with_reducible exact LeO.none _)
      | (with_reducible refine LeO.ite ?_ ?_)
      | (with_reducible refine LeO.bind ?_ (fun _ => ?_))
      | exact ih0 _ _ _
      | exact LeO.none _
      | refine LeO.ite ?_ ?_
      | refine LeO.bind ?_ (fun _ => ?_)
set_option maxHeartbeats 8000000 in
set_option maxRecDepth 100000 in
theorem chamberlainref09_Right.calls (k : Nat) (A0 : Option Addr) (c0 : Nat) (l0 : List (S25)) (a1 : Int) (r : Bool) (w : World) (hr0 : Kd.C k25 w A0 l0.length l0) (hc0 : l0.length ≤ c0) (h : chamberlainref09_Right.f k l0 a1 = some r) :
    Calls Try.prog 9 #[.slice A0 l0.length c0, .int .i64 a1] w fun e w' => e = .returned (.bool r) ∧ Below w.heap.size w w' := by
  have hu25 := Try.underlying25
  have HR0 := Aside0.mk hr0
  have HC0 := Aside0.mk hc0
  clear hr0 hc0
  have HB := Aside0.mk (Below.refl w.heap.size w)
  have H : (chamberlainref09_Right.l0 k l0 a1 0) = some r := h
  clear h
  have H' := Aside0.mk H
  clear H
  go_enter Try.func9, Try.ntmps9
  go_wp2
  go_loopg [5] k (fun kq v5 w' => ∃ (x5_1 : Int), v5 = .int .i64 x5_1 ∧ Aside0 (chamberlainref09_Right.l0 kq l0 a1 x5_1 = some r) ∧ Aside0 (kq ≤ k) ∧ Aside0 (Below w.heap.size w w'))
  case atStart => exact ⟨(0), (by first | rfl | (simp; done) | (simp [*]; done)), H', ⟨Nat.le_refl _⟩, ⟨by repeat (first | (with_reducible first | exact HB.out | apply below_alloc | apply pw_below_drewN | apply below_drew1) | exact HB.out)⟩⟩
  case round =>
    clear H'
    try clear p2
    obtain ⟨x5_1, rfl, HA, HK1, HB⟩ := hrel
    cases gk with
    | zero => exact absurd HA.out (by simp [chamberlainref09_Right.l0])
    | succ k1 =>
      have H := HA.out
      clear HA
      simp only [chamberlainref09_Right.l0] at H
      by_cases c3 : x5_1 < (l0.length : Int)
      · rw [if_pos c3] at H
        have c3b0 : decide (x5_1 < (l0.length : Int)) = true := decide_eq_true c3
        clear c3
        by_cases c4 : 0 ≤ x5_1
        · rw [if_pos c4] at H
          have c4b0 : decide (0 ≤ x5_1) = true := decide_eq_true c4
          clear c4
          replace H := Option.bind_eq_some_iff.mp H
          obtain ⟨t183, A50, H⟩ := H
          replace H : (if t183 = true then (chamberlainref09_Right.l0 k1 l0 a1 (wrap64 (x5_1 + 1))) else (some false)) = some r := H
          have A5 := Aside0.mk A50
          clear A50
          by_cases c6 : t183 = true
          · subst c6
            have H1 : (chamberlainref09_Right.l0 k1 l0 a1 (wrap64 (x5_1 + 1))) = some r := by rw [if_pos rfl] at H; exact H
            clear H
            have H := H1
            clear H1
            have H' := Aside0.mk H
            clear H
            have p182 : 0 ≤ (x5_1 : Int) := of_decide_eq_true (by first | (with_reducible assumption) | assumption)
            have q182 : x5_1 < (l0.length : Int) := of_decide_eq_true (by first | (with_reducible assumption) | assumption)
            obtain ⟨ad182, e182, hx182_0, hx182_1, hx182_2, hx182_3, hx182_4, hx182_5, hx182_6, hx182_7, hx182_8⟩ := at_T25 HR0.out x5_1 p182 q182
            cases e182
            replace hx182_0 := (HB.out.cell (World.block_lt_of_cell? w _ hx182_0)).trans hx182_0
            replace hx182_1 := (HB.out.cell (World.block_lt_of_cell? w _ hx182_1)).trans hx182_1
            replace hx182_2 := (HB.out.cell (World.block_lt_of_cell? w _ hx182_2)).trans hx182_2
            replace hx182_3 := (HB.out.cell (World.block_lt_of_cell? w _ hx182_3)).trans hx182_3
            replace hx182_4 := (HB.out.cell (World.block_lt_of_cell? w _ hx182_4)).trans hx182_4
            replace hx182_5 := (HB.out.cell (World.block_lt_of_cell? w _ hx182_5)).trans hx182_5
            replace hx182_6 := (HB.out.cell (World.block_lt_of_cell? w _ hx182_6)).trans hx182_6
            replace hx182_7 := (HB.out.cell (World.block_lt_of_cell? w _ hx182_7)).trans hx182_7
            replace hx182_8 := (HB.out.cell (World.block_lt_of_cell? w _ hx182_8)).trans hx182_8
            replace p182 := eq_true p182
            replace q182 := eq_true q182
            go_wp2_with (first | ((with_reducible refine gate_callee (f := 11) rfl ?_); refine goesL_ (some 16) rfl rfl Try.func11 (by kernel_rfl) rfl #[.agg #[.int .i64 ((rd_T25 l0 x5_1).f0), .int .i64 ((rd_T25 l0 x5_1).f1), .int .u32 ((rd_T25 l0 x5_1).f2), .int .u32 ((rd_T25 l0 x5_1).f3), .int .u32 ((rd_T25 l0 x5_1).f4), .int .u32 ((rd_T25 l0 x5_1).f5), .int .u32 ((rd_T25 l0 x5_1).f6), .int .u32 ((rd_T25 l0 x5_1).f7), .int .i64 ((rd_T25 l0 x5_1).f8)]] rfl (by (try simp only [List.map_toArray, List.map_cons, List.map_nil]); first | done | rfl | (simp only [List.length_drop, List.length_take]; rfl)) ?_; (with_reducible refine (chamberlainref09_May.calls ((rd_T25 l0 x5_1).f0) ((rd_T25 l0 x5_1).f1) ((rd_T25 l0 x5_1).f2) ((rd_T25 l0 x5_1).f3) ((rd_T25 l0 x5_1).f4) ((rd_T25 l0 x5_1).f5) ((rd_T25 l0 x5_1).f6) ((rd_T25 l0 x5_1).f7) ((rd_T25 l0 x5_1).f8) true _ A5.out).mono ?_); rintro e w7 ⟨rfl, hb⟩; refine ⟨_, rfl, ?_⟩; have n0_ := Aside0.mk (below_step (by repeat (first | (with_reducible first | exact HB.out | apply below_alloc | apply pw_below_drewN | apply below_drew1) | exact HB.out)) hb); clear HB; have HB := n0_; clear n0_; (try clear hb); (try clear hb2); (try clear hk); (try clear hi)))
            go_roundg k1
            case measure => have := HK1.out; omega
            case rel => exact ⟨(wrap64 (x5_1 + 1)), (by first | rfl | (simp; done) | (simp [*]; done)), H', ⟨by have := HK1.out; omega⟩, ⟨by repeat (first | (with_reducible first | exact HB.out | apply below_alloc | apply pw_below_drewN | apply below_drew1) | exact HB.out)⟩⟩
          · replace c6 := Bool.eq_false_iff.mpr c6
            subst c6
            have H1 : (some false) = some r := by rw [if_neg (show ¬ (false = true) by decide)] at H; exact H
            clear H
            have H := H1
            clear H1
            obtain rfl := Option.some.inj H
            have p182 : 0 ≤ (x5_1 : Int) := of_decide_eq_true (by first | (with_reducible assumption) | assumption)
            have q182 : x5_1 < (l0.length : Int) := of_decide_eq_true (by first | (with_reducible assumption) | assumption)
            obtain ⟨ad182, e182, hx182_0, hx182_1, hx182_2, hx182_3, hx182_4, hx182_5, hx182_6, hx182_7, hx182_8⟩ := at_T25 HR0.out x5_1 p182 q182
            cases e182
            replace hx182_0 := (HB.out.cell (World.block_lt_of_cell? w _ hx182_0)).trans hx182_0
            replace hx182_1 := (HB.out.cell (World.block_lt_of_cell? w _ hx182_1)).trans hx182_1
            replace hx182_2 := (HB.out.cell (World.block_lt_of_cell? w _ hx182_2)).trans hx182_2
            replace hx182_3 := (HB.out.cell (World.block_lt_of_cell? w _ hx182_3)).trans hx182_3
            replace hx182_4 := (HB.out.cell (World.block_lt_of_cell? w _ hx182_4)).trans hx182_4
            replace hx182_5 := (HB.out.cell (World.block_lt_of_cell? w _ hx182_5)).trans hx182_5
            replace hx182_6 := (HB.out.cell (World.block_lt_of_cell? w _ hx182_6)).trans hx182_6
            replace hx182_7 := (HB.out.cell (World.block_lt_of_cell? w _ hx182_7)).trans hx182_7
            replace hx182_8 := (HB.out.cell (World.block_lt_of_cell? w _ hx182_8)).trans hx182_8
            replace p182 := eq_true p182
            replace q182 := eq_true q182
            go_wp2_with (first | ((with_reducible refine gate_callee (f := 11) rfl ?_); refine goesL_ (some 16) rfl rfl Try.func11 (by kernel_rfl) rfl #[.agg #[.int .i64 ((rd_T25 l0 x5_1).f0), .int .i64 ((rd_T25 l0 x5_1).f1), .int .u32 ((rd_T25 l0 x5_1).f2), .int .u32 ((rd_T25 l0 x5_1).f3), .int .u32 ((rd_T25 l0 x5_1).f4), .int .u32 ((rd_T25 l0 x5_1).f5), .int .u32 ((rd_T25 l0 x5_1).f6), .int .u32 ((rd_T25 l0 x5_1).f7), .int .i64 ((rd_T25 l0 x5_1).f8)]] rfl (by (try simp only [List.map_toArray, List.map_cons, List.map_nil]); first | done | rfl | (simp only [List.length_drop, List.length_take]; rfl)) ?_; (with_reducible refine (chamberlainref09_May.calls ((rd_T25 l0 x5_1).f0) ((rd_T25 l0 x5_1).f1) ((rd_T25 l0 x5_1).f2) ((rd_T25 l0 x5_1).f3) ((rd_T25 l0 x5_1).f4) ((rd_T25 l0 x5_1).f5) ((rd_T25 l0 x5_1).f6) ((rd_T25 l0 x5_1).f7) ((rd_T25 l0 x5_1).f8) false _ A5.out).mono ?_); rintro e w8 ⟨rfl, hb⟩; refine ⟨_, rfl, ?_⟩; have n0_ := Aside0.mk (below_step (by repeat (first | (with_reducible first | exact HB.out | apply below_alloc | apply pw_below_drewN | apply below_drew1) | exact HB.out)) hb); clear HB; have HB := n0_; clear n0_; (try clear hb); (try clear hb2); (try clear hk); (try clear hi)))
            go_ret
            exact ⟨by first | rfl | (simp [errW_none, errW_some] <;> rfl) | (simp [*, errW_none, errW_some] <;> rfl), by repeat (first | (with_reducible first | exact HB.out | apply below_alloc | apply pw_below_drewN | apply below_drew1) | exact HB.out)⟩
        · rw [if_neg c4] at H
          exact absurd H (by simp)
      · rw [if_neg c3] at H
        have c3b0 : decide (x5_1 < (l0.length : Int)) = false := decide_eq_false c3
        clear c3
        obtain rfl := Option.some.inj H
        go_wp2
        go_ret
        exact ⟨by first | rfl | (simp [errW_none, errW_some] <;> rfl) | (simp [*, errW_none, errW_some] <;> rfl), by repeat (first | (with_reducible first | exact HB.out | apply below_alloc | apply pw_below_drewN | apply below_drew1) | exact HB.out)⟩

/-! ### chamberlainlaw09_RunsAdded: function 6 -/
mutual
def chamberlainlaw09_RunsAdded.j0 : Nat → List (S25) → Int → Int → Int → Int → Bool → Int → Int → Int → Int → Int → Int → Int → Int → Int → Option (Bool)
  | 0, _, _, _, _, _, _, _, _, _, _, _, _, _, _, _ => none
  | k + 1, x0, x2, x3, x4, x5, x37, x185000, x185001, x185002, x185003, x185004, x185005, x185006, x185007, x185008 => if x37 = true then ((chamberlainlaw09_awake.f k).bind fun t188 => (some t188)) else ((runs_Add.f k x0 61 x185000 x185001 x185002 x185003 x185004 x185005 x185006 x185007 x185008).bind fun bt189 => (if bt189.2 = 0 then (chamberlainlaw09_RunsAdded.j1 k x0 x2 x3 x4 x5 bt189.1 ((bt189.1.length : Int) != (wrap64 ((x0.length : Int) + 1))) x185000 x185001 x185002 x185003 x185004 x185005 x185006 x185007 x185008) else (chamberlainlaw09_RunsAdded.j1 k x0 x2 x3 x4 x5 bt189.1 true x185000 x185001 x185002 x185003 x185004 x185005 x185006 x185007 x185008)))
def chamberlainlaw09_RunsAdded.j1 : Nat → List (S25) → Int → Int → Int → Int → List (S25) → Bool → Int → Int → Int → Int → Int → Int → Int → Int → Int → Option (Bool)
  | 0, _, _, _, _, _, _, _, _, _, _, _, _, _, _, _, _ => none
  | k + 1, x0, x2, x3, x4, x5, x13, x54, x185000, x185001, x185002, x185003, x185004, x185005, x185006, x185007, x185008 => if x54 = true then (some false) else ((runs_Next.f k x13 (x0.length : Int) x185000 x185001 x185008).bind fun bt193 => ((runs_Next.f k x0 x2 x3 x4 x5).bind fun bt195 => ((runs_Next.f k x13 x2 x3 x4 x5).bind fun bt197 => (if bt193.2 = true then (chamberlainlaw09_RunsAdded.j2 k x0 x3 x4 x5 bt195.1 bt195.2 bt197.1 bt197.2 (bt193.1 != (x0.length : Int)) x185000 x185001 x185002 x185003 x185004 x185005 x185006 x185007 x185008) else (chamberlainlaw09_RunsAdded.j2 k x0 x3 x4 x5 bt195.1 bt195.2 bt197.1 bt197.2 true x185000 x185001 x185002 x185003 x185004 x185005 x185006 x185007 x185008)))))
def chamberlainlaw09_RunsAdded.j2 : Nat → List (S25) → Int → Int → Int → Int → Bool → Int → Bool → Bool → Int → Int → Int → Int → Int → Int → Int → Int → Int → Option (Bool)
  | 0, _, _, _, _, _, _, _, _, _, _, _, _, _, _, _, _, _, _ => none
  | k + 1, x0, x3, x4, x5, x17, x18, x19, x20, x93, x185000, x185001, x185002, x185003, x185004, x185005, x185006, x185007, x185008 => if x93 = true then (some false) else (if x18 = true then (if x20 = true then (some (x19 == x17)) else (some false)) else (if x20 = true then (if x19 = (x0.length : Int) then (if x185000 = x3 then (if x185001 = x4 then (some (x185008 == x5)) else (some false)) else (some false)) else (some false)) else (some true)))
end
def chamberlainlaw09_RunsAdded.f (k : Nat) (l0 : List (S25)) (a1_0 : Int) (a1_1 : Int) (a1_2 : Int) (a1_3 : Int) (a1_4 : Int) (a1_5 : Int) (a1_6 : Int) (a1_7 : Int) (a1_8 : Int) (a2 : Int) (a3 : Int) (a4 : Int) (a5 : Int) : Option (Bool) := (chamberlainlaw09_awake.f k).bind fun t185 => (if t185 = true then (if (l0.length : Int) > 60 then (chamberlainlaw09_RunsAdded.j0 k l0 a2 a3 a4 a5 true a1_0 a1_1 a1_2 a1_3 a1_4 a1_5 a1_6 a1_7 a1_8) else ((chamberlainref09_Right.f k l0 60).bind fun t186 => (if t186 = true then ((chamberlainref09_May.f a1_0 a1_1 a1_2 a1_3 a1_4 a1_5 a1_6 a1_7 a1_8).bind fun t187 => (chamberlainlaw09_RunsAdded.j0 k l0 a2 a3 a4 a5 (!t187) a1_0 a1_1 a1_2 a1_3 a1_4 a1_5 a1_6 a1_7 a1_8)) else (chamberlainlaw09_RunsAdded.j0 k l0 a2 a3 a4 a5 true a1_0 a1_1 a1_2 a1_3 a1_4 a1_5 a1_6 a1_7 a1_8)))) else (chamberlainlaw09_RunsAdded.j0 k l0 a2 a3 a4 a5 true a1_0 a1_1 a1_2 a1_3 a1_4 a1_5 a1_6 a1_7 a1_8))
theorem chamberlainlaw09_RunsAdded.mono_l : ∀ k, (∀ y0 y1 y2 y3 y4 y5 y6 y7 y8 y9 y10 y11 y12 y13 y14, LeO (chamberlainlaw09_RunsAdded.j0 k y0 y1 y2 y3 y4 y5 y6 y7 y8 y9 y10 y11 y12 y13 y14) (chamberlainlaw09_RunsAdded.j0 (k + 1) y0 y1 y2 y3 y4 y5 y6 y7 y8 y9 y10 y11 y12 y13 y14)) ∧ (∀ y0 y1 y2 y3 y4 y5 y6 y7 y8 y9 y10 y11 y12 y13 y14 y15, LeO (chamberlainlaw09_RunsAdded.j1 k y0 y1 y2 y3 y4 y5 y6 y7 y8 y9 y10 y11 y12 y13 y14 y15) (chamberlainlaw09_RunsAdded.j1 (k + 1) y0 y1 y2 y3 y4 y5 y6 y7 y8 y9 y10 y11 y12 y13 y14 y15)) ∧ (∀ y0 y1 y2 y3 y4 y5 y6 y7 y8 y9 y10 y11 y12 y13 y14 y15 y16 y17, LeO (chamberlainlaw09_RunsAdded.j2 k y0 y1 y2 y3 y4 y5 y6 y7 y8 y9 y10 y11 y12 y13 y14 y15 y16 y17) (chamberlainlaw09_RunsAdded.j2 (k + 1) y0 y1 y2 y3 y4 y5 y6 y7 y8 y9 y10 y11 y12 y13 y14 y15 y16 y17))
  | 0 => ⟨fun _ _ _ _ _ _ _ _ _ _ _ _ _ _ _ r h => by simp [chamberlainlaw09_RunsAdded.j0] at h, fun _ _ _ _ _ _ _ _ _ _ _ _ _ _ _ _ r h => by simp [chamberlainlaw09_RunsAdded.j1] at h, fun _ _ _ _ _ _ _ _ _ _ _ _ _ _ _ _ _ _ r h => by simp [chamberlainlaw09_RunsAdded.j2] at h⟩
  | k + 1 => by
    obtain ⟨ih0, ih1, ih2⟩ := chamberlainlaw09_RunsAdded.mono_l k
    refine ⟨?_, ?_, ?_⟩
    · intro y0 y1 y2 y3 y4 y5 y6 y7 y8 y9 y10 y11 y12 y13 y14
      unfold chamberlainlaw09_RunsAdded.j0
      repeat' first
      | (with_reducible exact ih0 _ _ _ _ _ _ _ _ _ _ _ _ _ _ _)
      | (with_reducible exact ih1 _ _ _ _ _ _ _ _ _ _ _ _ _ _ _ _)
      | (with_reducible exact ih2 _ _ _ _ _ _ _ _ _ _ _ _ _ _ _ _ _ _)
      | (with_reducible exact chamberlainlaw09_awake.mono _)
      | (with_reducible exact chamberlainref09_Right.mono _ _ _)
      | (with_reducible exact runs_Add.mono _ _ _ _ _ _ _ _ _ _ _ _)
      | (with_reducible exact runs_Next.mono _ _ _ _ _ _)
      | (with_reducible exact LeO.refl _)
      | (with_reducible exact LeO.none _)
      | (with_reducible refine LeO.ite ?_ ?_)
      | (with_reducible refine LeO.bind ?_ (fun _ => ?_))
      | exact ih0 _ _ _ _ _ _ _ _ _ _ _ _ _ _ _
      | exact ih1 _ _ _ _ _ _ _ _ _ _ _ _ _ _ _ _
      | exact ih2 _ _ _ _ _ _ _ _ _ _ _ _ _ _ _ _ _ _
      | exact chamberlainlaw09_awake.mono _
      | exact chamberlainref09_Right.mono _ _ _
      | exact runs_Add.mono _ _ _ _ _ _ _ _ _ _ _ _
      | exact runs_Next.mono _ _ _ _ _ _
      | exact LeO.none _
      | refine LeO.ite ?_ ?_
      | refine LeO.bind ?_ (fun _ => ?_)
    · intro y0 y1 y2 y3 y4 y5 y6 y7 y8 y9 y10 y11 y12 y13 y14 y15
      unfold chamberlainlaw09_RunsAdded.j1
      repeat' first
      | (with_reducible exact ih0 _ _ _ _ _ _ _ _ _ _ _ _ _ _ _)
      | (with_reducible exact ih1 _ _ _ _ _ _ _ _ _ _ _ _ _ _ _ _)
      | (with_reducible exact ih2 _ _ _ _ _ _ _ _ _ _ _ _ _ _ _ _ _ _)
      | (with_reducible exact chamberlainlaw09_awake.mono _)
      | (with_reducible exact chamberlainref09_Right.mono _ _ _)
      | (with_reducible exact runs_Add.mono _ _ _ _ _ _ _ _ _ _ _ _)
      | (with_reducible exact runs_Next.mono _ _ _ _ _ _)
      | (with_reducible exact LeO.refl _)
      | (with_reducible exact LeO.none _)
      | (with_reducible refine LeO.ite ?_ ?_)
      | (with_reducible refine LeO.bind ?_ (fun _ => ?_))
      | exact ih0 _ _ _ _ _ _ _ _ _ _ _ _ _ _ _
      | exact ih1 _ _ _ _ _ _ _ _ _ _ _ _ _ _ _ _
      | exact ih2 _ _ _ _ _ _ _ _ _ _ _ _ _ _ _ _ _ _
      | exact chamberlainlaw09_awake.mono _
      | exact chamberlainref09_Right.mono _ _ _
      | exact runs_Add.mono _ _ _ _ _ _ _ _ _ _ _ _
      | exact runs_Next.mono _ _ _ _ _ _
      | exact LeO.none _
      | refine LeO.ite ?_ ?_
      | refine LeO.bind ?_ (fun _ => ?_)
    · intro y0 y1 y2 y3 y4 y5 y6 y7 y8 y9 y10 y11 y12 y13 y14 y15 y16 y17
      unfold chamberlainlaw09_RunsAdded.j2
      repeat' first
      | (with_reducible exact ih0 _ _ _ _ _ _ _ _ _ _ _ _ _ _ _)
      | (with_reducible exact ih1 _ _ _ _ _ _ _ _ _ _ _ _ _ _ _ _)
      | (with_reducible exact ih2 _ _ _ _ _ _ _ _ _ _ _ _ _ _ _ _ _ _)
      | (with_reducible exact chamberlainlaw09_awake.mono _)
      | (with_reducible exact chamberlainref09_Right.mono _ _ _)
      | (with_reducible exact runs_Add.mono _ _ _ _ _ _ _ _ _ _ _ _)
      | (with_reducible exact runs_Next.mono _ _ _ _ _ _)
      | (with_reducible exact LeO.refl _)
      | (with_reducible exact LeO.none _)
      | (with_reducible refine LeO.ite ?_ ?_)
      | (with_reducible refine LeO.bind ?_ (fun _ => ?_))
      | exact ih0 _ _ _ _ _ _ _ _ _ _ _ _ _ _ _
      | exact ih1 _ _ _ _ _ _ _ _ _ _ _ _ _ _ _ _
      | exact ih2 _ _ _ _ _ _ _ _ _ _ _ _ _ _ _ _ _ _
      | exact chamberlainlaw09_awake.mono _
      | exact chamberlainref09_Right.mono _ _ _
      | exact runs_Add.mono _ _ _ _ _ _ _ _ _ _ _ _
      | exact runs_Next.mono _ _ _ _ _ _
      | exact LeO.none _
      | refine LeO.ite ?_ ?_
      | refine LeO.bind ?_ (fun _ => ?_)
theorem chamberlainlaw09_RunsAdded.mono : ∀ a0 a1 a2 a3 a4 a5 a6 a7 a8 a9 a10 a11 a12 a13 k, LeO (chamberlainlaw09_RunsAdded.f k a0 a1 a2 a3 a4 a5 a6 a7 a8 a9 a10 a11 a12 a13) (chamberlainlaw09_RunsAdded.f (k + 1) a0 a1 a2 a3 a4 a5 a6 a7 a8 a9 a10 a11 a12 a13) := by
  intro a0 a1 a2 a3 a4 a5 a6 a7 a8 a9 a10 a11 a12 a13 k
  obtain ⟨ih0, ih1, ih2⟩ := chamberlainlaw09_RunsAdded.mono_l k
  unfold chamberlainlaw09_RunsAdded.f
  repeat' first
      | (with_reducible exact ih0 _ _ _ _ _ _ _ _ _ _ _ _ _ _ _)
      | (with_reducible exact ih1 _ _ _ _ _ _ _ _ _ _ _ _ _ _ _ _)
      | (with_reducible exact ih2 _ _ _ _ _ _ _ _ _ _ _ _ _ _ _ _ _ _)
      | (with_reducible exact chamberlainlaw09_awake.mono _)
      | (with_reducible exact chamberlainref09_Right.mono _ _ _)
      | (with_reducible exact runs_Add.mono _ _ _ _ _ _ _ _ _ _ _ _)
      | (with_reducible exact runs_Next.mono _ _ _ _ _ _)
      | (with_reducible exact LeO.refl _)
      | (with_reducible exact LeO.none _)
      | (with_reducible refine LeO.ite ?_ ?_)
      | (with_reducible refine LeO.bind ?_ (fun _ => ?_))
      | exact ih0 _ _ _ _ _ _ _ _ _ _ _ _ _ _ _
      | exact ih1 _ _ _ _ _ _ _ _ _ _ _ _ _ _ _ _
      | exact ih2 _ _ _ _ _ _ _ _ _ _ _ _ _ _ _ _ _ _
      | exact chamberlainlaw09_awake.mono _
      | exact chamberlainref09_Right.mono _ _ _
      | exact runs_Add.mono _ _ _ _ _ _ _ _ _ _ _ _
      | exact runs_Next.mono _ _ _ _ _ _
      | exact LeO.none _
      | refine LeO.ite ?_ ?_
      | refine LeO.bind ?_ (fun _ => ?_)
set_option maxHeartbeats 8000000 in
set_option maxRecDepth 100000 in
theorem chamberlainlaw09_RunsAdded.calls (k : Nat) (A0 : Option Addr) (c0 : Nat) (l0 : List (S25)) (a1_0 : Int) (a1_1 : Int) (a1_2 : Int) (a1_3 : Int) (a1_4 : Int) (a1_5 : Int) (a1_6 : Int) (a1_7 : Int) (a1_8 : Int) (a2 : Int) (a3 : Int) (a4 : Int) (a5 : Int) (r : Bool) (w : World) (hr0 : Kd.C k25 w A0 l0.length l0) (hc0 : l0.length ≤ c0) (h : chamberlainlaw09_RunsAdded.f k l0 a1_0 a1_1 a1_2 a1_3 a1_4 a1_5 a1_6 a1_7 a1_8 a2 a3 a4 a5 = some r) (hT0 : r = true) :
    Calls Try.prog 6 #[.slice A0 l0.length c0, .agg #[.int .i64 a1_0, .int .i64 a1_1, .int .u32 a1_2, .int .u32 a1_3, .int .u32 a1_4, .int .u32 a1_5, .int .u32 a1_6, .int .u32 a1_7, .int .i64 a1_8], .int .i64 a2, .int .i64 a3, .int .i64 a4, .int .i64 a5] w fun e w' => e = .returned (.bool r) ∧ Below w.heap.size w w' := by
  have hT := Aside0.mk hT0
  clear hT0
  have hu25 := Try.underlying25
  have HR0 := Aside0.mk hr0
  have HC0 := Aside0.mk hc0
  clear hr0 hc0
  have HB := Aside0.mk (Below.refl w.heap.size w)
  have H : ((chamberlainlaw09_awake.f k).bind fun t185 => (if t185 = true then (if (l0.length : Int) > 60 then (chamberlainlaw09_RunsAdded.j0 k l0 a2 a3 a4 a5 true a1_0 a1_1 a1_2 a1_3 a1_4 a1_5 a1_6 a1_7 a1_8) else ((chamberlainref09_Right.f k l0 60).bind fun t186 => (if t186 = true then ((chamberlainref09_May.f a1_0 a1_1 a1_2 a1_3 a1_4 a1_5 a1_6 a1_7 a1_8).bind fun t187 => (chamberlainlaw09_RunsAdded.j0 k l0 a2 a3 a4 a5 (!t187) a1_0 a1_1 a1_2 a1_3 a1_4 a1_5 a1_6 a1_7 a1_8)) else (chamberlainlaw09_RunsAdded.j0 k l0 a2 a3 a4 a5 true a1_0 a1_1 a1_2 a1_3 a1_4 a1_5 a1_6 a1_7 a1_8)))) else (chamberlainlaw09_RunsAdded.j0 k l0 a2 a3 a4 a5 true a1_0 a1_1 a1_2 a1_3 a1_4 a1_5 a1_6 a1_7 a1_8))) = some r := h
  clear h
  have HC7 := Aside0.mk H
  clear H
  go_enter Try.func6, Try.ntmps6
  go_upto_region 1 with (first | ((with_reducible refine gate_dst (N := 7) rfl ?_); (try (refine gate_guard (by rfl) ?_; dsimp only)); refine box_event ?hg (N := 7) ?hd (cs := #[.int .i64 a1_0, .int .i64 a1_1, .int .u32 a1_2, .int .u32 a1_3, .int .u32 a1_4, .int .u32 a1_5, .int .u32 a1_6, .int .u32 a1_7, .int .i64 a1_8]) (t := 25) ?hr ?_; (case hd => rfl); (case hg => rfl); (case hr => first | (go_simp; done) | (go_simp; rfl)); intro gb184 hg w8 hbox hb; have n0_ := Aside0.mk (below_step (by repeat (first | (with_reducible first | exact HB.out | apply below_alloc | apply pw_below_drewN | apply below_drew1) | exact HB.out)) hb); have n1_ := Aside0.mk (hbox); have n2_ := Aside0.mk ((by rw [hg]; exact (below_size (by repeat (first | (with_reducible first | exact HB.out | apply below_alloc | apply pw_below_drewN | apply below_drew1) | exact HB.out))) : w.heap.size ≤ gb184)); have n3_ := Aside0.mk ((by rw [hg]; exact (below_size (by repeat (first | (with_reducible first | exact HB.out | apply below_alloc | apply pw_below_drewN | apply below_drew1) | exact HB.out))) : w.heap.size ≤ gb184)); clear HB; have HB := n0_; have BK184 := n1_; have GW184 := n2_; have GE184 := n3_; clear n0_ n1_ n2_ n3_; clear hb hbox hg))
  (try simp only [Act.put, List.setIfInBounds_toArray, List.set_cons_zero, List.set_cons_succ])
  go_cut [37] (fun v37 wc => ∃ (kq : Nat) (x37_6 : Bool), v37 = .bool x37_6 ∧ Aside0 (chamberlainlaw09_RunsAdded.j0 kq l0 a2 a3 a4 a5 x37_6 a1_0 a1_1 a1_2 a1_3 a1_4 a1_5 a1_6 a1_7 a1_8 = some r) ∧ Aside0 (kq ≤ k) ∧ Aside0 (wc.heap[gb184]? = some (.cells #[.int .i64 a1_0, .int .i64 a1_1, .int .u32 a1_2, .int .u32 a1_3, .int .u32 a1_4, .int .u32 a1_5, .int .u32 a1_6, .int .u32 a1_7, .int .i64 a1_8] 25 (0, 0))) ∧ Aside0 (Below w.heap.size w wc))
  case first =>
    have H := HC7.out
    clear HC7
    replace H := Option.bind_eq_some_iff.mp H
    obtain ⟨t185, A90, H⟩ := H
    replace H : (if t185 = true then (if (l0.length : Int) > 60 then (chamberlainlaw09_RunsAdded.j0 k l0 a2 a3 a4 a5 true a1_0 a1_1 a1_2 a1_3 a1_4 a1_5 a1_6 a1_7 a1_8) else ((chamberlainref09_Right.f k l0 60).bind fun t186 => (if t186 = true then ((chamberlainref09_May.f a1_0 a1_1 a1_2 a1_3 a1_4 a1_5 a1_6 a1_7 a1_8).bind fun t187 => (chamberlainlaw09_RunsAdded.j0 k l0 a2 a3 a4 a5 (!t187) a1_0 a1_1 a1_2 a1_3 a1_4 a1_5 a1_6 a1_7 a1_8)) else (chamberlainlaw09_RunsAdded.j0 k l0 a2 a3 a4 a5 true a1_0 a1_1 a1_2 a1_3 a1_4 a1_5 a1_6 a1_7 a1_8)))) else (chamberlainlaw09_RunsAdded.j0 k l0 a2 a3 a4 a5 true a1_0 a1_1 a1_2 a1_3 a1_4 a1_5 a1_6 a1_7 a1_8)) = some r := H
    have A9 := Aside0.mk A90
    clear A90
    by_cases c10 : t185 = true
    · subst c10
      have H1 : (if (l0.length : Int) > 60 then (chamberlainlaw09_RunsAdded.j0 k l0 a2 a3 a4 a5 true a1_0 a1_1 a1_2 a1_3 a1_4 a1_5 a1_6 a1_7 a1_8) else ((chamberlainref09_Right.f k l0 60).bind fun t186 => (if t186 = true then ((chamberlainref09_May.f a1_0 a1_1 a1_2 a1_3 a1_4 a1_5 a1_6 a1_7 a1_8).bind fun t187 => (chamberlainlaw09_RunsAdded.j0 k l0 a2 a3 a4 a5 (!t187) a1_0 a1_1 a1_2 a1_3 a1_4 a1_5 a1_6 a1_7 a1_8)) else (chamberlainlaw09_RunsAdded.j0 k l0 a2 a3 a4 a5 true a1_0 a1_1 a1_2 a1_3 a1_4 a1_5 a1_6 a1_7 a1_8)))) = some r := by rw [if_pos rfl] at H; exact H
      clear H
      have H := H1
      clear H1
      by_cases c11 : (l0.length : Int) > 60
      · rw [if_pos c11] at H
        have c11b0 : decide (60 < (l0.length : Int)) = true := decide_eq_true c11
        have c11b1 : decide (60 < l0.length) = true := decide_eq_true (by omega)
        clear c11
        (first | rw [c11b0] | (simp only [i64_w, i32_w]; rw [c11b0]) | skip)
        have H' := Aside0.mk H
        clear H
        go_wp2_with (first | ((with_reducible refine gate_callee (f := 7) rfl ?_); refine goesL_ (some 21) rfl rfl Try.func7 (by kernel_rfl) rfl #[] rfl (by (try simp only [List.map_toArray, List.map_cons, List.map_nil]); first | done | rfl | (simp only [List.length_drop, List.length_take]; rfl)) ?_; (with_reducible refine (chamberlainlaw09_awake.calls k  true _ A9.out).mono ?_); rintro e w12 ⟨rfl, hb⟩; refine ⟨_, rfl, ?_⟩; have n0_ := Aside0.mk (blk_below (g := gb184) (o := .cells #[.int .i64 a1_0, .int .i64 a1_1, .int .u32 a1_2, .int .u32 a1_3, .int .u32 a1_4, .int .u32 a1_5, .int .u32 a1_6, .int .u32 a1_7, .int .i64 a1_8] 25 (0, 0)) (by (with_reducible repeat (first | refine blk_drewN ?_ _ | refine blk_drew ?_ | refine blk_alloc ?_ _)); exact BK184.out) hb); have n1_ := Aside0.mk (below_step (by repeat (first | (with_reducible first | exact HB.out | apply below_alloc | apply pw_below_drewN | apply below_drew1 | refine below_set ?_ GE184.out) | exact HB.out)) hb); clear BK184; clear HB; have BK184 := n0_; have HB := n1_; clear n0_ n1_; (try clear hb); (try clear hb2); (try clear hk); (try clear hi)))
        go_meet
        case rel => exact ⟨_, (true), (by first | rfl | (simp; done) | (simp [*]; done)), H', ⟨by first | omega | exact Nat.le_refl _⟩, ⟨by (with_reducible repeat (first | refine blk_drewN ?_ _ | refine blk_drew ?_ | refine blk_alloc ?_ _)); exact BK184.out⟩, ⟨by repeat (first | (with_reducible first | exact HB.out | apply below_alloc | apply pw_below_drewN | apply below_drew1 | refine below_set ?_ GE184.out) | exact HB.out)⟩⟩
      · rw [if_neg c11] at H
        have c11b0 : decide (60 < (l0.length : Int)) = false := decide_eq_false c11
        have c11b1 : decide (60 < l0.length) = false := decide_eq_false (by omega)
        clear c11
        (first | rw [c11b0] | (simp only [i64_w, i32_w]; rw [c11b0]) | skip)
        replace H := Option.bind_eq_some_iff.mp H
        obtain ⟨t186, A130, H⟩ := H
        replace H : (if t186 = true then ((chamberlainref09_May.f a1_0 a1_1 a1_2 a1_3 a1_4 a1_5 a1_6 a1_7 a1_8).bind fun t187 => (chamberlainlaw09_RunsAdded.j0 k l0 a2 a3 a4 a5 (!t187) a1_0 a1_1 a1_2 a1_3 a1_4 a1_5 a1_6 a1_7 a1_8)) else (chamberlainlaw09_RunsAdded.j0 k l0 a2 a3 a4 a5 true a1_0 a1_1 a1_2 a1_3 a1_4 a1_5 a1_6 a1_7 a1_8)) = some r := H
        have A13 := Aside0.mk A130
        clear A130
        by_cases c14 : t186 = true
        · subst c14
          have H1 : ((chamberlainref09_May.f a1_0 a1_1 a1_2 a1_3 a1_4 a1_5 a1_6 a1_7 a1_8).bind fun t187 => (chamberlainlaw09_RunsAdded.j0 k l0 a2 a3 a4 a5 (!t187) a1_0 a1_1 a1_2 a1_3 a1_4 a1_5 a1_6 a1_7 a1_8)) = some r := by rw [if_pos rfl] at H; exact H
          clear H
          have H := H1
          clear H1
          replace H := Option.bind_eq_some_iff.mp H
          obtain ⟨t187, A150, H⟩ := H
          replace H : (chamberlainlaw09_RunsAdded.j0 k l0 a2 a3 a4 a5 (!t187) a1_0 a1_1 a1_2 a1_3 a1_4 a1_5 a1_6 a1_7 a1_8) = some r := H
          have A15 := Aside0.mk A150
          clear A150
          have H' := Aside0.mk H
          clear H
          go_wp2_with (first | ((with_reducible refine gate_callee (f := 7) rfl ?_); refine goesL_ (some 21) rfl rfl Try.func7 (by kernel_rfl) rfl #[] rfl (by (try simp only [List.map_toArray, List.map_cons, List.map_nil]); first | done | rfl | (simp only [List.length_drop, List.length_take]; rfl)) ?_; (with_reducible refine (chamberlainlaw09_awake.calls k  true _ A9.out).mono ?_); rintro e w16 ⟨rfl, hb⟩; refine ⟨_, rfl, ?_⟩; have n0_ := Aside0.mk (blk_below (g := gb184) (o := .cells #[.int .i64 a1_0, .int .i64 a1_1, .int .u32 a1_2, .int .u32 a1_3, .int .u32 a1_4, .int .u32 a1_5, .int .u32 a1_6, .int .u32 a1_7, .int .i64 a1_8] 25 (0, 0)) (by (with_reducible repeat (first | refine blk_drewN ?_ _ | refine blk_drew ?_ | refine blk_alloc ?_ _)); exact BK184.out) hb); have n1_ := Aside0.mk (below_step (by repeat (first | (with_reducible first | exact HB.out | apply below_alloc | apply pw_below_drewN | apply below_drew1 | refine below_set ?_ GE184.out) | exact HB.out)) hb); clear BK184; clear HB; have BK184 := n0_; have HB := n1_; clear n0_ n1_; (try clear hb); (try clear hb2); (try clear hk); (try clear hi)) | (go_at_call 9; (with_reducible refine (chamberlainref09_Right.calls k _ _ l0 60 true _ ?side1 ?side2 A13.out).mono ?_); (case side1 => repeat (first | exact (Kd.C_below HR0.out HB.out) | (with_reducible refine Kd.C_alloc ?_ _) | (with_reducible refine Kd.C_drewN ?_ _) | (with_reducible refine Kd.C_drew ?_))); (case side2 => exact HC0.out); rintro e w17 ⟨rfl, hb⟩; have n0_ := Aside0.mk (blk_below (g := gb184) (o := .cells #[.int .i64 a1_0, .int .i64 a1_1, .int .u32 a1_2, .int .u32 a1_3, .int .u32 a1_4, .int .u32 a1_5, .int .u32 a1_6, .int .u32 a1_7, .int .i64 a1_8] 25 (0, 0)) (by (with_reducible repeat (first | refine blk_drewN ?_ _ | refine blk_drew ?_ | refine blk_alloc ?_ _)); exact BK184.out) hb); have n1_ := Aside0.mk (below_step (by repeat (first | (with_reducible first | exact HB.out | apply below_alloc | apply pw_below_drewN | apply below_drew1 | refine below_set ?_ GE184.out) | exact HB.out)) hb); clear BK184; clear HB; have BK184 := n0_; have HB := n1_; clear n0_ n1_; (try clear hb); (try clear hb2); (try clear hk); (try clear hi); have hcz18_0 : w17.cell? ⟨gb184, 0, none⟩ = some (.int .i64 a1_0) := (blk_cell BK184.out 0).trans rfl; have hcz18_1 : w17.cell? ⟨gb184, 1, none⟩ = some (.int .i64 a1_1) := (blk_cell BK184.out 1).trans rfl; have hcz18_2 : w17.cell? ⟨gb184, 2, none⟩ = some (.int .u32 a1_2) := (blk_cell BK184.out 2).trans rfl; have hcz18_3 : w17.cell? ⟨gb184, 3, none⟩ = some (.int .u32 a1_3) := (blk_cell BK184.out 3).trans rfl; have hcz18_4 : w17.cell? ⟨gb184, 4, none⟩ = some (.int .u32 a1_4) := (blk_cell BK184.out 4).trans rfl; have hcz18_5 : w17.cell? ⟨gb184, 5, none⟩ = some (.int .u32 a1_5) := (blk_cell BK184.out 5).trans rfl; have hcz18_6 : w17.cell? ⟨gb184, 6, none⟩ = some (.int .u32 a1_6) := (blk_cell BK184.out 6).trans rfl; have hcz18_7 : w17.cell? ⟨gb184, 7, none⟩ = some (.int .u32 a1_7) := (blk_cell BK184.out 7).trans rfl; have hcz18_8 : w17.cell? ⟨gb184, 8, none⟩ = some (.int .i64 a1_8) := (blk_cell BK184.out 8).trans rfl; have hfz18_0 := blk_frozen BK184.out 0; have hfz18_1 := blk_frozen BK184.out 1; have hfz18_2 := blk_frozen BK184.out 2; have hfz18_3 := blk_frozen BK184.out 3; have hfz18_4 := blk_frozen BK184.out 4; have hfz18_5 := blk_frozen BK184.out 5; have hfz18_6 := blk_frozen BK184.out 6; have hfz18_7 := blk_frozen BK184.out 7; have hfz18_8 := blk_frozen BK184.out 8) | (go_at_call 11; (with_reducible refine (chamberlainref09_May.calls a1_0 a1_1 a1_2 a1_3 a1_4 a1_5 a1_6 a1_7 a1_8 t187 _ A15.out).mono ?_); rintro e w19 ⟨rfl, hb⟩; have n0_ := Aside0.mk (blk_below (g := gb184) (o := .cells #[.int .i64 a1_0, .int .i64 a1_1, .int .u32 a1_2, .int .u32 a1_3, .int .u32 a1_4, .int .u32 a1_5, .int .u32 a1_6, .int .u32 a1_7, .int .i64 a1_8] 25 (0, 0)) (by (with_reducible repeat (first | refine blk_drewN ?_ _ | refine blk_drew ?_ | refine blk_alloc ?_ _)); exact BK184.out) hb); have n1_ := Aside0.mk (below_step (by repeat (first | (with_reducible first | exact HB.out | apply below_alloc | apply pw_below_drewN | apply below_drew1 | refine below_set ?_ GE184.out) | exact HB.out)) hb); clear BK184; clear HB; have BK184 := n0_; have HB := n1_; clear n0_ n1_; (try clear hb); (try clear hb2); (try clear hk); (try clear hi)))
          go_meet
          case rel => exact ⟨_, (!t187), (by first | rfl | (simp; done) | (simp [*]; done)), H', ⟨by first | omega | exact Nat.le_refl _⟩, ⟨by (with_reducible repeat (first | refine blk_drewN ?_ _ | refine blk_drew ?_ | refine blk_alloc ?_ _)); exact BK184.out⟩, ⟨by repeat (first | (with_reducible first | exact HB.out | apply below_alloc | apply pw_below_drewN | apply below_drew1 | refine below_set ?_ GE184.out) | exact HB.out)⟩⟩
        · replace c14 := Bool.eq_false_iff.mpr c14
          subst c14
          have H1 : (chamberlainlaw09_RunsAdded.j0 k l0 a2 a3 a4 a5 true a1_0 a1_1 a1_2 a1_3 a1_4 a1_5 a1_6 a1_7 a1_8) = some r := by rw [if_neg (show ¬ (false = true) by decide)] at H; exact H
          clear H
          have H := H1
          clear H1
          have H' := Aside0.mk H
          clear H
          go_wp2_with (first | ((with_reducible refine gate_callee (f := 7) rfl ?_); refine goesL_ (some 21) rfl rfl Try.func7 (by kernel_rfl) rfl #[] rfl (by (try simp only [List.map_toArray, List.map_cons, List.map_nil]); first | done | rfl | (simp only [List.length_drop, List.length_take]; rfl)) ?_; (with_reducible refine (chamberlainlaw09_awake.calls k  true _ A9.out).mono ?_); rintro e w20 ⟨rfl, hb⟩; refine ⟨_, rfl, ?_⟩; have n0_ := Aside0.mk (blk_below (g := gb184) (o := .cells #[.int .i64 a1_0, .int .i64 a1_1, .int .u32 a1_2, .int .u32 a1_3, .int .u32 a1_4, .int .u32 a1_5, .int .u32 a1_6, .int .u32 a1_7, .int .i64 a1_8] 25 (0, 0)) (by (with_reducible repeat (first | refine blk_drewN ?_ _ | refine blk_drew ?_ | refine blk_alloc ?_ _)); exact BK184.out) hb); have n1_ := Aside0.mk (below_step (by repeat (first | (with_reducible first | exact HB.out | apply below_alloc | apply pw_below_drewN | apply below_drew1 | refine below_set ?_ GE184.out) | exact HB.out)) hb); clear BK184; clear HB; have BK184 := n0_; have HB := n1_; clear n0_ n1_; (try clear hb); (try clear hb2); (try clear hk); (try clear hi)) | (go_at_call 9; (with_reducible refine (chamberlainref09_Right.calls k _ _ l0 60 false _ ?side1 ?side2 A13.out).mono ?_); (case side1 => repeat (first | exact (Kd.C_below HR0.out HB.out) | (with_reducible refine Kd.C_alloc ?_ _) | (with_reducible refine Kd.C_drewN ?_ _) | (with_reducible refine Kd.C_drew ?_))); (case side2 => exact HC0.out); rintro e w21 ⟨rfl, hb⟩; have n0_ := Aside0.mk (blk_below (g := gb184) (o := .cells #[.int .i64 a1_0, .int .i64 a1_1, .int .u32 a1_2, .int .u32 a1_3, .int .u32 a1_4, .int .u32 a1_5, .int .u32 a1_6, .int .u32 a1_7, .int .i64 a1_8] 25 (0, 0)) (by (with_reducible repeat (first | refine blk_drewN ?_ _ | refine blk_drew ?_ | refine blk_alloc ?_ _)); exact BK184.out) hb); have n1_ := Aside0.mk (below_step (by repeat (first | (with_reducible first | exact HB.out | apply below_alloc | apply pw_below_drewN | apply below_drew1 | refine below_set ?_ GE184.out) | exact HB.out)) hb); clear BK184; clear HB; have BK184 := n0_; have HB := n1_; clear n0_ n1_; (try clear hb); (try clear hb2); (try clear hk); (try clear hi)))
          go_meet
          case rel => exact ⟨_, (true), (by first | rfl | (simp; done) | (simp [*]; done)), H', ⟨by first | omega | exact Nat.le_refl _⟩, ⟨by (with_reducible repeat (first | refine blk_drewN ?_ _ | refine blk_drew ?_ | refine blk_alloc ?_ _)); exact BK184.out⟩, ⟨by repeat (first | (with_reducible first | exact HB.out | apply below_alloc | apply pw_below_drewN | apply below_drew1 | refine below_set ?_ GE184.out) | exact HB.out)⟩⟩
    · replace c10 := Bool.eq_false_iff.mpr c10
      subst c10
      have H1 : (chamberlainlaw09_RunsAdded.j0 k l0 a2 a3 a4 a5 true a1_0 a1_1 a1_2 a1_3 a1_4 a1_5 a1_6 a1_7 a1_8) = some r := by rw [if_neg (show ¬ (false = true) by decide)] at H; exact H
      clear H
      have H := H1
      clear H1
      have H' := Aside0.mk H
      clear H
      go_wp2_with (first | ((with_reducible refine gate_callee (f := 7) rfl ?_); refine goesL_ (some 21) rfl rfl Try.func7 (by kernel_rfl) rfl #[] rfl (by (try simp only [List.map_toArray, List.map_cons, List.map_nil]); first | done | rfl | (simp only [List.length_drop, List.length_take]; rfl)) ?_; (with_reducible refine (chamberlainlaw09_awake.calls k  false _ A9.out).mono ?_); rintro e w22 ⟨rfl, hb⟩; refine ⟨_, rfl, ?_⟩; have n0_ := Aside0.mk (blk_below (g := gb184) (o := .cells #[.int .i64 a1_0, .int .i64 a1_1, .int .u32 a1_2, .int .u32 a1_3, .int .u32 a1_4, .int .u32 a1_5, .int .u32 a1_6, .int .u32 a1_7, .int .i64 a1_8] 25 (0, 0)) (by (with_reducible repeat (first | refine blk_drewN ?_ _ | refine blk_drew ?_ | refine blk_alloc ?_ _)); exact BK184.out) hb); have n1_ := Aside0.mk (below_step (by repeat (first | (with_reducible first | exact HB.out | apply below_alloc | apply pw_below_drewN | apply below_drew1 | refine below_set ?_ GE184.out) | exact HB.out)) hb); clear BK184; clear HB; have BK184 := n0_; have HB := n1_; clear n0_ n1_; (try clear hb); (try clear hb2); (try clear hk); (try clear hi)))
      go_meet
      case rel => exact ⟨_, (true), (by first | rfl | (simp; done) | (simp [*]; done)), H', ⟨by first | omega | exact Nat.le_refl _⟩, ⟨by (with_reducible repeat (first | refine blk_drewN ?_ _ | refine blk_drew ?_ | refine blk_alloc ?_ _)); exact BK184.out⟩, ⟨by repeat (first | (with_reducible first | exact HB.out | apply below_alloc | apply pw_below_drewN | apply below_drew1 | refine below_set ?_ GE184.out) | exact HB.out)⟩⟩
  case rest =>
    clear HC7
    try clear c1
    try clear p2
    try clear c6
    try clear c7
    try clear c10
    try clear c11
    try clear c11b0
    try clear c11b1
    try clear c14
    try clear hcz18_0
    try clear hcz18_1
    try clear hcz18_2
    try clear hcz18_3
    try clear hcz18_4
    try clear hcz18_5
    try clear hcz18_6
    try clear hcz18_7
    try clear hcz18_8
    try clear hfz18_0
    try clear hfz18_1
    try clear hfz18_2
    try clear hfz18_3
    try clear hfz18_4
    try clear hfz18_5
    try clear hfz18_6
    try clear hfz18_7
    try clear hfz18_8
    obtain ⟨kq, x37_6, rfl, HA, HJ6, BK184, HB⟩ := hcut
    cases kq with
    | zero => exact absurd HA.out (by simp [chamberlainlaw09_RunsAdded.j0])
    | succ kj6 =>
      have H := HA.out
      clear HA
      simp only [chamberlainlaw09_RunsAdded.j0] at H
      by_cases c23 : x37_6 = true
      · subst c23
        have H1 : ((chamberlainlaw09_awake.f kj6).bind fun t188 => (some t188)) = some r := by rw [if_pos rfl] at H; exact H
        clear H
        have H := H1
        clear H1
        replace H := Option.bind_eq_some_iff.mp H
        obtain ⟨t188, A240, H⟩ := H
        replace H : (some t188) = some r := H
        have A24 := Aside0.mk A240
        clear A240
        obtain rfl := Option.some.inj H
        go_wp2_with (first | ((with_reducible refine gate_callee (f := 7) rfl ?_); refine goesL_ (some 38) rfl rfl Try.func7 (by kernel_rfl) rfl #[] rfl (by (try simp only [List.map_toArray, List.map_cons, List.map_nil]); first | done | rfl | (simp only [List.length_drop, List.length_take]; rfl)) ?_; (with_reducible refine (chamberlainlaw09_awake.calls kj6  t188 _ A24.out).mono ?_); rintro e w25 ⟨rfl, hb⟩; refine ⟨_, rfl, ?_⟩; have n0_ := Aside0.mk (blk_below (g := gb184) (o := .cells #[.int .i64 a1_0, .int .i64 a1_1, .int .u32 a1_2, .int .u32 a1_3, .int .u32 a1_4, .int .u32 a1_5, .int .u32 a1_6, .int .u32 a1_7, .int .i64 a1_8] 25 (0, 0)) (by (with_reducible repeat (first | refine blk_drewN ?_ _ | refine blk_drew ?_ | refine blk_alloc ?_ _)); exact BK184.out) hb); have n1_ := Aside0.mk (below_step (by repeat (first | (with_reducible first | exact HB.out | apply below_alloc | apply pw_below_drewN | apply below_drew1 | refine below_set ?_ GE184.out) | exact HB.out)) hb); clear BK184; clear HB; have BK184 := n0_; have HB := n1_; clear n0_ n1_; (try clear hb); (try clear hb2); (try clear hk); (try clear hi)))
        go_ret
        exact ⟨by first | rfl | (simp [errW_none, errW_some] <;> rfl) | (simp [*, errW_none, errW_some] <;> rfl), by repeat (first | (with_reducible first | exact HB.out | apply below_alloc | apply pw_below_drewN | apply below_drew1 | refine below_set ?_ GE184.out) | exact HB.out)⟩
      · replace c23 := Bool.eq_false_iff.mpr c23
        subst c23
        have H1 : ((runs_Add.f kj6 l0 61 a1_0 a1_1 a1_2 a1_3 a1_4 a1_5 a1_6 a1_7 a1_8).bind fun bt189 => (if bt189.2 = 0 then (chamberlainlaw09_RunsAdded.j1 kj6 l0 a2 a3 a4 a5 bt189.1 ((bt189.1.length : Int) != (wrap64 ((l0.length : Int) + 1))) a1_0 a1_1 a1_2 a1_3 a1_4 a1_5 a1_6 a1_7 a1_8) else (chamberlainlaw09_RunsAdded.j1 kj6 l0 a2 a3 a4 a5 bt189.1 true a1_0 a1_1 a1_2 a1_3 a1_4 a1_5 a1_6 a1_7 a1_8))) = some r := by rw [if_neg (show ¬ (false = true) by decide)] at H; exact H
        clear H
        have H := H1
        clear H1
        replace H := Option.bind_eq_some_iff.mp H
        obtain ⟨⟨t189, t192⟩, A260, H⟩ := H
        replace H : (if t192 = 0 then (chamberlainlaw09_RunsAdded.j1 kj6 l0 a2 a3 a4 a5 t189 ((t189.length : Int) != (wrap64 ((l0.length : Int) + 1))) a1_0 a1_1 a1_2 a1_3 a1_4 a1_5 a1_6 a1_7 a1_8) else (chamberlainlaw09_RunsAdded.j1 kj6 l0 a2 a3 a4 a5 t189 true a1_0 a1_1 a1_2 a1_3 a1_4 a1_5 a1_6 a1_7 a1_8)) = some r := H
        have A26 := Aside0.mk A260
        clear A260
        have HC27 := Aside0.mk H
        clear H
        have hcz28_0 : wc.cell? ⟨gb184, 0, none⟩ = some (.int .i64 a1_0) := (blk_cell BK184.out 0).trans rfl
        have hcz28_1 : wc.cell? ⟨gb184, 1, none⟩ = some (.int .i64 a1_1) := (blk_cell BK184.out 1).trans rfl
        have hcz28_2 : wc.cell? ⟨gb184, 2, none⟩ = some (.int .u32 a1_2) := (blk_cell BK184.out 2).trans rfl
        have hcz28_3 : wc.cell? ⟨gb184, 3, none⟩ = some (.int .u32 a1_3) := (blk_cell BK184.out 3).trans rfl
        have hcz28_4 : wc.cell? ⟨gb184, 4, none⟩ = some (.int .u32 a1_4) := (blk_cell BK184.out 4).trans rfl
        have hcz28_5 : wc.cell? ⟨gb184, 5, none⟩ = some (.int .u32 a1_5) := (blk_cell BK184.out 5).trans rfl
        have hcz28_6 : wc.cell? ⟨gb184, 6, none⟩ = some (.int .u32 a1_6) := (blk_cell BK184.out 6).trans rfl
        have hcz28_7 : wc.cell? ⟨gb184, 7, none⟩ = some (.int .u32 a1_7) := (blk_cell BK184.out 7).trans rfl
        have hcz28_8 : wc.cell? ⟨gb184, 8, none⟩ = some (.int .i64 a1_8) := (blk_cell BK184.out 8).trans rfl
        have hfz28_0 := blk_frozen BK184.out 0
        have hfz28_1 := blk_frozen BK184.out 1
        have hfz28_2 := blk_frozen BK184.out 2
        have hfz28_3 := blk_frozen BK184.out 3
        have hfz28_4 := blk_frozen BK184.out 4
        have hfz28_5 := blk_frozen BK184.out 5
        have hfz28_6 := blk_frozen BK184.out 6
        have hfz28_7 := blk_frozen BK184.out 7
        have hfz28_8 := blk_frozen BK184.out 8
        go_upto_region 4 with (first | ((with_reducible refine gate_callee (f := 12) rfl ?_); refine goesL_ (some 42) rfl rfl Try.func12 (by kernel_rfl) rfl #[.slice A0 l0.length c0, .int .i64 61, .agg #[.int .i64 a1_0, .int .i64 a1_1, .int .u32 a1_2, .int .u32 a1_3, .int .u32 a1_4, .int .u32 a1_5, .int .u32 a1_6, .int .u32 a1_7, .int .i64 a1_8]] rfl (by (try simp only [List.map_toArray, List.map_cons, List.map_nil]); first | done | rfl | (simp only [List.length_drop, List.length_take]; rfl)) ?_; (with_reducible refine (runs_Add.calls kj6 (fun k_ => k_ < w.heap.size) _ _ l0 61 a1_0 a1_1 a1_2 a1_3 a1_4 a1_5 a1_6 a1_7 a1_8 t189 t192 _ ?side1 A26.out).mono ?_); (case side1 => exact Kd.V_mk HC0.out (Kd.F_below (Kd.C_F k25_heap HR0.out) (by repeat (first | (with_reducible first | exact HB.out | apply below_alloc | apply pw_below_drewN | apply below_drew1 | refine below_set ?_ GE184.out) | exact HB.out)))); rintro e w29 ⟨v190, rfl, ho0, hb⟩; refine ⟨_, rfl, ?_⟩; have n0_ := Aside0.mk (Kd.V_lower (Kd.V_mono (ok' := fun k_ => k_ ≠ gb184) ho0 (fun k_ hk_ => Or.elim hk_ (fun hs_ => fun e_ => Nat.not_le.2 hs_ (by rw [e_]; exact GW184.out)) (fun hn_ => (Kd.freshB (g := gb184) (o := .cells #[.int .i64 a1_0, .int .i64 a1_1, .int .u32 a1_2, .int .u32 a1_3, .int .u32 a1_4, .int .u32 a1_5, .int .u32 a1_6, .int .u32 a1_7, .int .i64 a1_8] 25 (0, 0)) (by (with_reducible repeat (first | refine blk_drewN ?_ _ | refine blk_drew ?_ | refine blk_alloc ?_ _)); exact BK184.out) k_ hn_)))) (below_size (by repeat (first | (with_reducible first | exact HB.out | apply below_alloc | apply pw_below_drewN | apply below_drew1 | refine below_set ?_ GE184.out) | exact HB.out)))); have n1_ := Aside0.mk (blk_below (g := gb184) (o := .cells #[.int .i64 a1_0, .int .i64 a1_1, .int .u32 a1_2, .int .u32 a1_3, .int .u32 a1_4, .int .u32 a1_5, .int .u32 a1_6, .int .u32 a1_7, .int .i64 a1_8] 25 (0, 0)) (by (with_reducible repeat (first | refine blk_drewN ?_ _ | refine blk_drew ?_ | refine blk_alloc ?_ _)); exact BK184.out) hb); have n2_ := Aside0.mk (below_step (by repeat (first | (with_reducible first | exact HB.out | apply below_alloc | apply pw_below_drewN | apply below_drew1 | refine below_set ?_ GE184.out) | exact HB.out)) hb); clear BK184; clear HB; have HO191 := n0_; have BK184 := n1_; have HB := n2_; clear n0_ n1_ n2_; (try clear hb); (try clear hb2); (try clear hk); (try clear hi); (try clear ho0)))
        (try simp only [Act.put, List.setIfInBounds_toArray, List.set_cons_zero, List.set_cons_succ])
        go_cut [54] (fun v54 wc => ∃ (kq : Nat) (x54_26 : Bool), v54 = .bool x54_26 ∧ Aside0 (chamberlainlaw09_RunsAdded.j1 kq l0 a2 a3 a4 a5 t189 x54_26 a1_0 a1_1 a1_2 a1_3 a1_4 a1_5 a1_6 a1_7 a1_8 = some r) ∧ Aside0 (kq ≤ kj6) ∧ Aside0 (Kd.V k25 25 wc w.heap.size (fun k_ => k_ ≠ gb184) v190 t189) ∧ Aside0 (wc.heap[gb184]? = some (.cells #[.int .i64 a1_0, .int .i64 a1_1, .int .u32 a1_2, .int .u32 a1_3, .int .u32 a1_4, .int .u32 a1_5, .int .u32 a1_6, .int .u32 a1_7, .int .i64 a1_8] 25 (0, 0))) ∧ Aside0 (Below w.heap.size w wc))
        case first =>
          have H := HC27.out
          clear HC27
          by_cases c30 : t192 = 0
          · rw [if_pos c30] at H
            have c30b0 : (t192 == 0) = true := beq_iff_eq.mpr c30
            have c30b1 : (t192 != 0) = false := bne_eq_false_iff_eq.mpr c30
            clear c30
            (first | rw [c30b0] | (simp only [i64_w, i32_w]; rw [c30b0]) | skip)
            have H' := Aside0.mk H
            clear H
            obtain ⟨Ao31, co31, eo31⟩ := Kd.V_slice HO191.out
            subst eo31
            go_wp2
            go_meet
            case rel => exact ⟨_, (((t189.length : Int) != (wrap64 ((l0.length : Int) + 1)))), (by first | rfl | (simp; done) | (simp [*]; done)), H', ⟨by have := HJ6.out; first | omega | exact Nat.le_refl _⟩, ⟨by (with_reducible repeat (first | apply Kd.V_alloc | apply Kd.V_drewN | apply Kd.V_drew)); exact HO191.out⟩, ⟨by (with_reducible repeat (first | refine blk_drewN ?_ _ | refine blk_drew ?_ | refine blk_alloc ?_ _)); exact BK184.out⟩, ⟨by repeat (first | (with_reducible first | exact HB.out | apply below_alloc | apply pw_below_drewN | apply below_drew1 | refine below_set ?_ GE184.out) | exact HB.out)⟩⟩
          · rw [if_neg c30] at H
            have c30b0 : (t192 == 0) = false := beq_eq_false_iff_ne.mpr c30
            have c30b1 : (t192 != 0) = true := bne_iff_ne.mpr c30
            (first | rw [c30b0] | (simp only [i64_w, i32_w]; rw [c30b0]) | skip)
            have H' := Aside0.mk H
            clear H
            go_wp2
            go_meet
            case rel => exact ⟨_, (true), (by first | rfl | (simp; done) | (simp [*]; done)), H', ⟨by have := HJ6.out; first | omega | exact Nat.le_refl _⟩, ⟨by (with_reducible repeat (first | apply Kd.V_alloc | apply Kd.V_drewN | apply Kd.V_drew)); exact HO191.out⟩, ⟨by (with_reducible repeat (first | refine blk_drewN ?_ _ | refine blk_drew ?_ | refine blk_alloc ?_ _)); exact BK184.out⟩, ⟨by repeat (first | (with_reducible first | exact HB.out | apply below_alloc | apply pw_below_drewN | apply below_drew1 | refine below_set ?_ GE184.out) | exact HB.out)⟩⟩
        case rest =>
          clear HC27
          try clear c1
          try clear c2
          try clear p2
          try clear c3
          try clear c6
          try clear p6
          try clear c7
          try clear c10
          try clear c11
          try clear c11b0
          try clear c11b1
          try clear c12
          try clear c14
          try clear c23
          try clear c30
          try clear c30b0
          try clear c30b1
          try clear hcz18_0
          try clear hcz18_1
          try clear hcz18_2
          try clear hcz18_3
          try clear hcz18_4
          try clear hcz18_5
          try clear hcz18_6
          try clear hcz18_7
          try clear hcz18_8
          try clear hcz28_0
          try clear hcz28_1
          try clear hcz28_2
          try clear hcz28_3
          try clear hcz28_4
          try clear hcz28_5
          try clear hcz28_6
          try clear hcz28_7
          try clear hcz28_8
          try clear hfz18_0
          try clear hfz18_1
          try clear hfz18_2
          try clear hfz18_3
          try clear hfz18_4
          try clear hfz18_5
          try clear hfz18_6
          try clear hfz18_7
          try clear hfz18_8
          try clear hfz28_0
          try clear hfz28_1
          try clear hfz28_2
          try clear hfz28_3
          try clear hfz28_4
          try clear hfz28_5
          try clear hfz28_6
          try clear hfz28_7
          try clear hfz28_8
          try clear p2
          obtain ⟨kq, x54_26, rfl, HA, HJ26, HO_13, BK184, HB⟩ := hcut
          cases kq with
          | zero => exact absurd HA.out (by simp [chamberlainlaw09_RunsAdded.j1])
          | succ kj26 =>
            have H := HA.out
            clear HA
            simp only [chamberlainlaw09_RunsAdded.j1] at H
            by_cases c32 : x54_26 = true
            · subst c32
              have H1 : (some false) = some r := by rw [if_pos rfl] at H; exact H
              clear H
              have H := H1
              clear H1
              exact absurd (hT.out.symm.trans (Option.some.inj H).symm) (by decide)
            · replace c32 := Bool.eq_false_iff.mpr c32
              subst c32
              have H1 : ((runs_Next.f kj26 t189 (l0.length : Int) a1_0 a1_1 a1_8).bind fun bt193 => ((runs_Next.f kj26 l0 a2 a3 a4 a5).bind fun bt195 => ((runs_Next.f kj26 t189 a2 a3 a4 a5).bind fun bt197 => (if bt193.2 = true then (chamberlainlaw09_RunsAdded.j2 kj26 l0 a3 a4 a5 bt195.1 bt195.2 bt197.1 bt197.2 (bt193.1 != (l0.length : Int)) a1_0 a1_1 a1_2 a1_3 a1_4 a1_5 a1_6 a1_7 a1_8) else (chamberlainlaw09_RunsAdded.j2 kj26 l0 a3 a4 a5 bt195.1 bt195.2 bt197.1 bt197.2 true a1_0 a1_1 a1_2 a1_3 a1_4 a1_5 a1_6 a1_7 a1_8))))) = some r := by rw [if_neg (show ¬ (false = true) by decide)] at H; exact H
              clear H
              have H := H1
              clear H1
              replace H := Option.bind_eq_some_iff.mp H
              obtain ⟨⟨t193, t194⟩, A330, H⟩ := H
              replace H : ((runs_Next.f kj26 l0 a2 a3 a4 a5).bind fun bt195 => ((runs_Next.f kj26 t189 a2 a3 a4 a5).bind fun bt197 => (if t194 = true then (chamberlainlaw09_RunsAdded.j2 kj26 l0 a3 a4 a5 bt195.1 bt195.2 bt197.1 bt197.2 (t193 != (l0.length : Int)) a1_0 a1_1 a1_2 a1_3 a1_4 a1_5 a1_6 a1_7 a1_8) else (chamberlainlaw09_RunsAdded.j2 kj26 l0 a3 a4 a5 bt195.1 bt195.2 bt197.1 bt197.2 true a1_0 a1_1 a1_2 a1_3 a1_4 a1_5 a1_6 a1_7 a1_8)))) = some r := H
              have A33 := Aside0.mk A330
              clear A330
              replace H := Option.bind_eq_some_iff.mp H
              obtain ⟨⟨t195, t196⟩, A340, H⟩ := H
              replace H : ((runs_Next.f kj26 t189 a2 a3 a4 a5).bind fun bt197 => (if t194 = true then (chamberlainlaw09_RunsAdded.j2 kj26 l0 a3 a4 a5 t195 t196 bt197.1 bt197.2 (t193 != (l0.length : Int)) a1_0 a1_1 a1_2 a1_3 a1_4 a1_5 a1_6 a1_7 a1_8) else (chamberlainlaw09_RunsAdded.j2 kj26 l0 a3 a4 a5 t195 t196 bt197.1 bt197.2 true a1_0 a1_1 a1_2 a1_3 a1_4 a1_5 a1_6 a1_7 a1_8))) = some r := H
              have A34 := Aside0.mk A340
              clear A340
              replace H := Option.bind_eq_some_iff.mp H
              obtain ⟨⟨t197, t198⟩, A350, H⟩ := H
              replace H : (if t194 = true then (chamberlainlaw09_RunsAdded.j2 kj26 l0 a3 a4 a5 t195 t196 t197 t198 (t193 != (l0.length : Int)) a1_0 a1_1 a1_2 a1_3 a1_4 a1_5 a1_6 a1_7 a1_8) else (chamberlainlaw09_RunsAdded.j2 kj26 l0 a3 a4 a5 t195 t196 t197 t198 true a1_0 a1_1 a1_2 a1_3 a1_4 a1_5 a1_6 a1_7 a1_8)) = some r := H
              have A35 := Aside0.mk A350
              clear A350
              have HC36 := Aside0.mk H
              clear H
              have hcz37_0 : wc.cell? ⟨gb184, 0, none⟩ = some (.int .i64 a1_0) := (blk_cell BK184.out 0).trans rfl
              have hcz37_1 : wc.cell? ⟨gb184, 1, none⟩ = some (.int .i64 a1_1) := (blk_cell BK184.out 1).trans rfl
              have hcz37_2 : wc.cell? ⟨gb184, 2, none⟩ = some (.int .u32 a1_2) := (blk_cell BK184.out 2).trans rfl
              have hcz37_3 : wc.cell? ⟨gb184, 3, none⟩ = some (.int .u32 a1_3) := (blk_cell BK184.out 3).trans rfl
              have hcz37_4 : wc.cell? ⟨gb184, 4, none⟩ = some (.int .u32 a1_4) := (blk_cell BK184.out 4).trans rfl
              have hcz37_5 : wc.cell? ⟨gb184, 5, none⟩ = some (.int .u32 a1_5) := (blk_cell BK184.out 5).trans rfl
              have hcz37_6 : wc.cell? ⟨gb184, 6, none⟩ = some (.int .u32 a1_6) := (blk_cell BK184.out 6).trans rfl
              have hcz37_7 : wc.cell? ⟨gb184, 7, none⟩ = some (.int .u32 a1_7) := (blk_cell BK184.out 7).trans rfl
              have hcz37_8 : wc.cell? ⟨gb184, 8, none⟩ = some (.int .i64 a1_8) := (blk_cell BK184.out 8).trans rfl
              have hfz37_0 := blk_frozen BK184.out 0
              have hfz37_1 := blk_frozen BK184.out 1
              have hfz37_2 := blk_frozen BK184.out 2
              have hfz37_3 := blk_frozen BK184.out 3
              have hfz37_4 := blk_frozen BK184.out 4
              have hfz37_5 := blk_frozen BK184.out 5
              have hfz37_6 := blk_frozen BK184.out 6
              have hfz37_7 := blk_frozen BK184.out 7
              have hfz37_8 := blk_frozen BK184.out 8
              obtain ⟨Ao38, co38, eo38⟩ := Kd.V_slice HO_13.out
              subst eo38
              go_upto_region 9 with (first | ((with_reducible refine gate_callee (f := 16) rfl ?_); refine goesL_ (some 65) rfl rfl Try.func16 (by kernel_rfl) rfl #[.slice Ao38 t189.length co38, .int .i64 (l0.length : Int), .int .i64 a1_0, .int .i64 a1_1, .int .i64 a1_8] rfl (by (try simp only [List.map_toArray, List.map_cons, List.map_nil]); first | done | rfl | (simp only [List.length_drop, List.length_take]; rfl)) ?_; (with_reducible refine (runs_Next.calls kj26 _ _ t189 (l0.length : Int) a1_0 a1_1 a1_8 t193 t194 _ ?side1 ?side2 A33.out).mono ?_); (case side1 => repeat (first | exact (Kd.V_reads' HO_13.out).2.2 | (with_reducible refine Kd.C_alloc ?_ _) | (with_reducible refine Kd.C_drewN ?_ _) | (with_reducible refine Kd.C_drew ?_))); (case side2 => exact (Kd.V_reads' HO_13.out).2.1); rintro e w39 ⟨rfl, hb⟩; refine ⟨_, rfl, ?_⟩; have n0_ := Aside0.mk (Kd.V_below (by (with_reducible repeat (first | apply Kd.V_alloc | apply Kd.V_drewN | apply Kd.V_drew)); exact HO_13.out) hb); have n1_ := Aside0.mk (blk_below (g := gb184) (o := .cells #[.int .i64 a1_0, .int .i64 a1_1, .int .u32 a1_2, .int .u32 a1_3, .int .u32 a1_4, .int .u32 a1_5, .int .u32 a1_6, .int .u32 a1_7, .int .i64 a1_8] 25 (0, 0)) (by (with_reducible repeat (first | refine blk_drewN ?_ _ | refine blk_drew ?_ | refine blk_alloc ?_ _)); exact BK184.out) hb); have n2_ := Aside0.mk (below_step (by repeat (first | (with_reducible first | exact HB.out | apply below_alloc | apply pw_below_drewN | apply below_drew1 | refine below_set ?_ GE184.out) | exact HB.out)) hb); clear HO_13; clear BK184; clear HB; have HO_13 := n0_; have BK184 := n1_; have HB := n2_; clear n0_ n1_ n2_; (try clear hb); (try clear hb2); (try clear hk); (try clear hi)) | ((with_reducible refine gate_callee (f := 16) rfl ?_); refine goesL_ (some 74) rfl rfl Try.func16 (by kernel_rfl) rfl #[.slice A0 l0.length c0, .int .i64 a2, .int .i64 a3, .int .i64 a4, .int .i64 a5] rfl (by (try simp only [List.map_toArray, List.map_cons, List.map_nil]); first | done | rfl | (simp only [List.length_drop, List.length_take]; rfl)) ?_; (with_reducible refine (runs_Next.calls kj26 _ _ l0 a2 a3 a4 a5 t195 t196 _ ?side1 ?side2 A34.out).mono ?_); (case side1 => repeat (first | exact (Kd.C_below HR0.out HB.out) | (with_reducible refine Kd.C_alloc ?_ _) | (with_reducible refine Kd.C_drewN ?_ _) | (with_reducible refine Kd.C_drew ?_))); (case side2 => exact HC0.out); rintro e w40 ⟨rfl, hb⟩; refine ⟨_, rfl, ?_⟩; have n0_ := Aside0.mk (Kd.V_below (by (with_reducible repeat (first | apply Kd.V_alloc | apply Kd.V_drewN | apply Kd.V_drew)); exact HO_13.out) hb); have n1_ := Aside0.mk (blk_below (g := gb184) (o := .cells #[.int .i64 a1_0, .int .i64 a1_1, .int .u32 a1_2, .int .u32 a1_3, .int .u32 a1_4, .int .u32 a1_5, .int .u32 a1_6, .int .u32 a1_7, .int .i64 a1_8] 25 (0, 0)) (by (with_reducible repeat (first | refine blk_drewN ?_ _ | refine blk_drew ?_ | refine blk_alloc ?_ _)); exact BK184.out) hb); have n2_ := Aside0.mk (below_step (by repeat (first | (with_reducible first | exact HB.out | apply below_alloc | apply pw_below_drewN | apply below_drew1 | refine below_set ?_ GE184.out) | exact HB.out)) hb); clear HO_13; clear BK184; clear HB; have HO_13 := n0_; have BK184 := n1_; have HB := n2_; clear n0_ n1_ n2_; (try clear hb); (try clear hb2); (try clear hk); (try clear hi)) | ((with_reducible refine gate_callee (f := 16) rfl ?_); refine goesL_ (some 83) rfl rfl Try.func16 (by kernel_rfl) rfl #[.slice Ao38 t189.length co38, .int .i64 a2, .int .i64 a3, .int .i64 a4, .int .i64 a5] rfl (by (try simp only [List.map_toArray, List.map_cons, List.map_nil]); first | done | rfl | (simp only [List.length_drop, List.length_take]; rfl)) ?_; (with_reducible refine (runs_Next.calls kj26 _ _ t189 a2 a3 a4 a5 t197 t198 _ ?side1 ?side2 A35.out).mono ?_); (case side1 => repeat (first | exact (Kd.V_reads' HO_13.out).2.2 | (with_reducible refine Kd.C_alloc ?_ _) | (with_reducible refine Kd.C_drewN ?_ _) | (with_reducible refine Kd.C_drew ?_))); (case side2 => exact (Kd.V_reads' HO_13.out).2.1); rintro e w41 ⟨rfl, hb⟩; refine ⟨_, rfl, ?_⟩; have n0_ := Aside0.mk (Kd.V_below (by (with_reducible repeat (first | apply Kd.V_alloc | apply Kd.V_drewN | apply Kd.V_drew)); exact HO_13.out) hb); have n1_ := Aside0.mk (blk_below (g := gb184) (o := .cells #[.int .i64 a1_0, .int .i64 a1_1, .int .u32 a1_2, .int .u32 a1_3, .int .u32 a1_4, .int .u32 a1_5, .int .u32 a1_6, .int .u32 a1_7, .int .i64 a1_8] 25 (0, 0)) (by (with_reducible repeat (first | refine blk_drewN ?_ _ | refine blk_drew ?_ | refine blk_alloc ?_ _)); exact BK184.out) hb); have n2_ := Aside0.mk (below_step (by repeat (first | (with_reducible first | exact HB.out | apply below_alloc | apply pw_below_drewN | apply below_drew1 | refine below_set ?_ GE184.out) | exact HB.out)) hb); clear HO_13; clear BK184; clear HB; have HO_13 := n0_; have BK184 := n1_; have HB := n2_; clear n0_ n1_ n2_; (try clear hb); (try clear hb2); (try clear hk); (try clear hi)))
              (try simp only [Act.put, List.setIfInBounds_toArray, List.set_cons_zero, List.set_cons_succ])
              go_cut [93] (fun v93 wc => ∃ (kq : Nat) (x93_35 : Bool), v93 = .bool x93_35 ∧ Aside0 (chamberlainlaw09_RunsAdded.j2 kq l0 a3 a4 a5 t195 t196 t197 t198 x93_35 a1_0 a1_1 a1_2 a1_3 a1_4 a1_5 a1_6 a1_7 a1_8 = some r) ∧ Aside0 (kq ≤ kj26) ∧ Aside0 (wc.heap[gb184]? = some (.cells #[.int .i64 a1_0, .int .i64 a1_1, .int .u32 a1_2, .int .u32 a1_3, .int .u32 a1_4, .int .u32 a1_5, .int .u32 a1_6, .int .u32 a1_7, .int .i64 a1_8] 25 (0, 0))) ∧ Aside0 (Below w.heap.size w wc))
              case first =>
                have H := HC36.out
                clear HC36
                by_cases c42 : t194 = true
                · subst c42
                  have H1 : (chamberlainlaw09_RunsAdded.j2 kj26 l0 a3 a4 a5 t195 t196 t197 t198 (t193 != (l0.length : Int)) a1_0 a1_1 a1_2 a1_3 a1_4 a1_5 a1_6 a1_7 a1_8) = some r := by rw [if_pos rfl] at H; exact H
                  clear H
                  have H := H1
                  clear H1
                  have H' := Aside0.mk H
                  clear H
                  go_wp2
                  go_meet
                  case rel => exact ⟨_, ((t193 != (l0.length : Int))), (by first | rfl | (simp; done) | (simp [*]; done)), H', ⟨by have := HJ6.out; have := HJ26.out; first | omega | exact Nat.le_refl _⟩, ⟨by (with_reducible repeat (first | refine blk_drewN ?_ _ | refine blk_drew ?_ | refine blk_alloc ?_ _)); exact BK184.out⟩, ⟨by repeat (first | (with_reducible first | exact HB.out | apply below_alloc | apply pw_below_drewN | apply below_drew1 | refine below_set ?_ GE184.out) | exact HB.out)⟩⟩
                · replace c42 := Bool.eq_false_iff.mpr c42
                  subst c42
                  have H1 : (chamberlainlaw09_RunsAdded.j2 kj26 l0 a3 a4 a5 t195 t196 t197 t198 true a1_0 a1_1 a1_2 a1_3 a1_4 a1_5 a1_6 a1_7 a1_8) = some r := by rw [if_neg (show ¬ (false = true) by decide)] at H; exact H
                  clear H
                  have H := H1
                  clear H1
                  have H' := Aside0.mk H
                  clear H
                  go_wp2
                  go_meet
                  case rel => exact ⟨_, (true), (by first | rfl | (simp; done) | (simp [*]; done)), H', ⟨by have := HJ6.out; have := HJ26.out; first | omega | exact Nat.le_refl _⟩, ⟨by (with_reducible repeat (first | refine blk_drewN ?_ _ | refine blk_drew ?_ | refine blk_alloc ?_ _)); exact BK184.out⟩, ⟨by repeat (first | (with_reducible first | exact HB.out | apply below_alloc | apply pw_below_drewN | apply below_drew1 | refine below_set ?_ GE184.out) | exact HB.out)⟩⟩
              case rest =>
                clear HC36
                try clear c1
                try clear c2
                try clear p2
                try clear c3
                try clear c4
                try clear c6
                try clear p6
                try clear c7
                try clear c10
                try clear c11
                try clear c11b0
                try clear c11b1
                try clear c12
                try clear c14
                try clear c16
                try clear c23
                try clear c30
                try clear c30b0
                try clear c30b1
                try clear c32
                try clear c42
                try clear hcz18_0
                try clear hcz18_1
                try clear hcz18_2
                try clear hcz18_3
                try clear hcz18_4
                try clear hcz18_5
                try clear hcz18_6
                try clear hcz18_7
                try clear hcz18_8
                try clear hcz28_0
                try clear hcz28_1
                try clear hcz28_2
                try clear hcz28_3
                try clear hcz28_4
                try clear hcz28_5
                try clear hcz28_6
                try clear hcz28_7
                try clear hcz28_8
                try clear hcz37_0
                try clear hcz37_1
                try clear hcz37_2
                try clear hcz37_3
                try clear hcz37_4
                try clear hcz37_5
                try clear hcz37_6
                try clear hcz37_7
                try clear hcz37_8
                try clear hfz18_0
                try clear hfz18_1
                try clear hfz18_2
                try clear hfz18_3
                try clear hfz18_4
                try clear hfz18_5
                try clear hfz18_6
                try clear hfz18_7
                try clear hfz18_8
                try clear hfz28_0
                try clear hfz28_1
                try clear hfz28_2
                try clear hfz28_3
                try clear hfz28_4
                try clear hfz28_5
                try clear hfz28_6
                try clear hfz28_7
                try clear hfz28_8
                try clear hfz37_0
                try clear hfz37_1
                try clear hfz37_2
                try clear hfz37_3
                try clear hfz37_4
                try clear hfz37_5
                try clear hfz37_6
                try clear hfz37_7
                try clear hfz37_8
                try clear p2
                try clear p6
                obtain ⟨kq, x93_35, rfl, HA, HJ35, BK184, HB⟩ := hcut
                cases kq with
                | zero => exact absurd HA.out (by simp [chamberlainlaw09_RunsAdded.j2])
                | succ kj35 =>
                  have H := HA.out
                  clear HA
                  simp only [chamberlainlaw09_RunsAdded.j2] at H
                  by_cases c43 : x93_35 = true
                  · subst c43
                    have H1 : (some false) = some r := by rw [if_pos rfl] at H; exact H
                    clear H
                    have H := H1
                    clear H1
                    exact absurd (hT.out.symm.trans (Option.some.inj H).symm) (by decide)
                  · replace c43 := Bool.eq_false_iff.mpr c43
                    subst c43
                    have H1 : (if t196 = true then (if t198 = true then (some (t197 == t195)) else (some false)) else (if t198 = true then (if t197 = (l0.length : Int) then (if a1_0 = a3 then (if a1_1 = a4 then (some (a1_8 == a5)) else (some false)) else (some false)) else (some false)) else (some true))) = some r := by rw [if_neg (show ¬ (false = true) by decide)] at H; exact H
                    clear H
                    have H := H1
                    clear H1
                    by_cases c44 : t196 = true
                    · subst c44
                      have H1 : (if t198 = true then (some (t197 == t195)) else (some false)) = some r := by rw [if_pos rfl] at H; exact H
                      clear H
                      have H := H1
                      clear H1
                      by_cases c45 : t198 = true
                      · subst c45
                        have H1 : (some (t197 == t195)) = some r := by rw [if_pos rfl] at H; exact H
                        clear H
                        have H := H1
                        clear H1
                        obtain rfl := Option.some.inj H
                        go_wp2
                        go_ret
                        exact ⟨by first | rfl | (simp [errW_none, errW_some] <;> rfl) | (simp [*, errW_none, errW_some] <;> rfl), by repeat (first | (with_reducible first | exact HB.out | apply below_alloc | apply pw_below_drewN | apply below_drew1 | refine below_set ?_ GE184.out) | exact HB.out)⟩
                      · replace c45 := Bool.eq_false_iff.mpr c45
                        subst c45
                        have H1 : (some false) = some r := by rw [if_neg (show ¬ (false = true) by decide)] at H; exact H
                        clear H
                        have H := H1
                        clear H1
                        exact absurd (hT.out.symm.trans (Option.some.inj H).symm) (by decide)
                    · replace c44 := Bool.eq_false_iff.mpr c44
                      subst c44
                      have H1 : (if t198 = true then (if t197 = (l0.length : Int) then (if a1_0 = a3 then (if a1_1 = a4 then (some (a1_8 == a5)) else (some false)) else (some false)) else (some false)) else (some true)) = some r := by rw [if_neg (show ¬ (false = true) by decide)] at H; exact H
                      clear H
                      have H := H1
                      clear H1
                      by_cases c46 : t198 = true
                      · subst c46
                        have H1 : (if t197 = (l0.length : Int) then (if a1_0 = a3 then (if a1_1 = a4 then (some (a1_8 == a5)) else (some false)) else (some false)) else (some false)) = some r := by rw [if_pos rfl] at H; exact H
                        clear H
                        have H := H1
                        clear H1
                        by_cases c47 : t197 = (l0.length : Int)
                        · rw [if_pos c47] at H
                          have c47b0 : (t197 == (l0.length : Int)) = true := beq_iff_eq.mpr c47
                          have c47b1 : (t197 != (l0.length : Int)) = false := bne_eq_false_iff_eq.mpr c47
                          clear c47
                          by_cases c48 : a1_0 = a3
                          · rw [if_pos c48] at H
                            have c48b0 : (a1_0 == a3) = true := beq_iff_eq.mpr c48
                            have c48b1 : (a1_0 != a3) = false := bne_eq_false_iff_eq.mpr c48
                            clear c48
                            by_cases c49 : a1_1 = a4
                            · rw [if_pos c49] at H
                              have c49b0 : (a1_1 == a4) = true := beq_iff_eq.mpr c49
                              have c49b1 : (a1_1 != a4) = false := bne_eq_false_iff_eq.mpr c49
                              clear c49
                              obtain rfl := Option.some.inj H
                              have hcz50_0 : wc.cell? ⟨gb184, 0, none⟩ = some (.int .i64 a1_0) := (blk_cell BK184.out 0).trans rfl
                              have hcz50_1 : wc.cell? ⟨gb184, 1, none⟩ = some (.int .i64 a1_1) := (blk_cell BK184.out 1).trans rfl
                              have hcz50_2 : wc.cell? ⟨gb184, 2, none⟩ = some (.int .u32 a1_2) := (blk_cell BK184.out 2).trans rfl
                              have hcz50_3 : wc.cell? ⟨gb184, 3, none⟩ = some (.int .u32 a1_3) := (blk_cell BK184.out 3).trans rfl
                              have hcz50_4 : wc.cell? ⟨gb184, 4, none⟩ = some (.int .u32 a1_4) := (blk_cell BK184.out 4).trans rfl
                              have hcz50_5 : wc.cell? ⟨gb184, 5, none⟩ = some (.int .u32 a1_5) := (blk_cell BK184.out 5).trans rfl
                              have hcz50_6 : wc.cell? ⟨gb184, 6, none⟩ = some (.int .u32 a1_6) := (blk_cell BK184.out 6).trans rfl
                              have hcz50_7 : wc.cell? ⟨gb184, 7, none⟩ = some (.int .u32 a1_7) := (blk_cell BK184.out 7).trans rfl
                              have hcz50_8 : wc.cell? ⟨gb184, 8, none⟩ = some (.int .i64 a1_8) := (blk_cell BK184.out 8).trans rfl
                              have hfz50_0 := blk_frozen BK184.out 0
                              have hfz50_1 := blk_frozen BK184.out 1
                              have hfz50_2 := blk_frozen BK184.out 2
                              have hfz50_3 := blk_frozen BK184.out 3
                              have hfz50_4 := blk_frozen BK184.out 4
                              have hfz50_5 := blk_frozen BK184.out 5
                              have hfz50_6 := blk_frozen BK184.out 6
                              have hfz50_7 := blk_frozen BK184.out 7
                              have hfz50_8 := blk_frozen BK184.out 8
                              go_wp2
                              go_ret
                              exact ⟨by first | rfl | (simp [errW_none, errW_some] <;> rfl) | (simp [*, errW_none, errW_some] <;> rfl), by repeat (first | (with_reducible first | exact HB.out | apply below_alloc | apply pw_below_drewN | apply below_drew1 | refine below_set ?_ GE184.out) | exact HB.out)⟩
                            · rw [if_neg c49] at H
                              have c49b0 : (a1_1 == a4) = false := beq_eq_false_iff_ne.mpr c49
                              have c49b1 : (a1_1 != a4) = true := bne_iff_ne.mpr c49
                              exact absurd (hT.out.symm.trans (Option.some.inj H).symm) (by decide)
                          · rw [if_neg c48] at H
                            have c48b0 : (a1_0 == a3) = false := beq_eq_false_iff_ne.mpr c48
                            have c48b1 : (a1_0 != a3) = true := bne_iff_ne.mpr c48
                            exact absurd (hT.out.symm.trans (Option.some.inj H).symm) (by decide)
                        · rw [if_neg c47] at H
                          have c47b0 : (t197 == (l0.length : Int)) = false := beq_eq_false_iff_ne.mpr c47
                          have c47b1 : (t197 != (l0.length : Int)) = true := bne_iff_ne.mpr c47
                          exact absurd (hT.out.symm.trans (Option.some.inj H).symm) (by decide)
                      · replace c46 := Bool.eq_false_iff.mpr c46
                        subst c46
                        have H1 : (some true) = some r := by rw [if_neg (show ¬ (false = true) by decide)] at H; exact H
                        clear H
                        have H := H1
                        clear H1
                        obtain rfl := Option.some.inj H
                        go_wp2
                        go_ret
                        exact ⟨by first | rfl | (simp [errW_none, errW_some] <;> rfl) | (simp [*, errW_none, errW_some] <;> rfl), by repeat (first | (with_reducible first | exact HB.out | apply below_alloc | apply pw_below_drewN | apply below_drew1 | refine below_set ?_ GE184.out) | exact HB.out)⟩

end Go.Proofs.Ytjhopebkflgcbaa.PRunsAdded
