-- Written for this claim by wip/tools/myprint.py (print.py's forms; proofs of the faked functions by hand).
import Derived.Test.YtjhopebkflgcbaaPRunsDoesx0
namespace Go.Proofs.Ytjhopebkflgcbaa.PRunsDoes
open Go.RowKit Go.Proofs.YtjhopebkflgcbaaW.PrintWords Go.Proofs.YtjhopebkflgcbaaW.PrintLast Go.Proofs.YtjhopebkflgcbaaW.PrintMore
attribute [local go_sem] max2_int min2_int max_two min_two max_three min_three max_four min_four   -- for this text's walks alone
set_option linter.unusedVariables false
set_option linter.unusedSimpArgs false

/-! ### chamberlainref09_May: function 11 -/
def chamberlainref09_May.f (a0_0 : Int) (a0_1 : Int) (a0_2 : Int) (a0_3 : Int) (a0_4 : Int) (a0_5 : Int) (a0_6 : Int) (a0_7 : Int) (a0_8 : Int) : Option (Bool) := if a0_0 = 1 then (if a0_1 = 1 then (if a0_8 = 1 then (some true) else (if a0_8 = 2 then (some true) else (some (a0_8 == 3)))) else (if a0_1 = 2 then (if a0_8 = 1 then (some true) else (if a0_8 = 2 then (some true) else (some (a0_8 == 3)))) else (some false))) else (if a0_0 = 2 then (if a0_1 = 1 then (if a0_8 = 1 then (some true) else (if a0_8 = 2 then (some true) else (some (a0_8 == 3)))) else (if a0_1 = 2 then (if a0_8 = 1 then (some true) else (if a0_8 = 2 then (some true) else (some (a0_8 == 3)))) else (some false))) else (some false))
set_option maxHeartbeats 8000000 in
set_option maxRecDepth 100000 in
theorem chamberlainref09_May.calls (a0_0 : Int) (a0_1 : Int) (a0_2 : Int) (a0_3 : Int) (a0_4 : Int) (a0_5 : Int) (a0_6 : Int) (a0_7 : Int) (a0_8 : Int) (r : Bool) (w : World) (h : chamberlainref09_May.f a0_0 a0_1 a0_2 a0_3 a0_4 a0_5 a0_6 a0_7 a0_8 = some r) :
    Calls Try.prog 11 #[.agg #[.int .i64 a0_0, .int .i64 a0_1, .int .u32 a0_2, .int .u32 a0_3, .int .u32 a0_4, .int .u32 a0_5, .int .u32 a0_6, .int .u32 a0_7, .int .i64 a0_8]] w fun e w' => e = .returned (.bool r) ∧ Below w.heap.size w w' := by
  have hu25 := Try.underlying25
  have HB := Aside0.mk (Below.refl w.heap.size w)
  have H : (if a0_0 = 1 then (if a0_1 = 1 then (if a0_8 = 1 then (some true) else (if a0_8 = 2 then (some true) else (some (a0_8 == 3)))) else (if a0_1 = 2 then (if a0_8 = 1 then (some true) else (if a0_8 = 2 then (some true) else (some (a0_8 == 3)))) else (some false))) else (if a0_0 = 2 then (if a0_1 = 1 then (if a0_8 = 1 then (some true) else (if a0_8 = 2 then (some true) else (some (a0_8 == 3)))) else (if a0_1 = 2 then (if a0_8 = 1 then (some true) else (if a0_8 = 2 then (some true) else (some (a0_8 == 3)))) else (some false))) else (some false))) = some r := h
  clear h
  by_cases c2 : a0_0 = 1
  · rw [if_pos c2] at H
    have c2b0 : (a0_0 == 1) = true := beq_iff_eq.mpr c2
    have c2b1 : (a0_0 != 1) = false := bne_eq_false_iff_eq.mpr c2
    clear c2
    by_cases c3 : a0_1 = 1
    · rw [if_pos c3] at H
      have c3b0 : (a0_1 == 1) = true := beq_iff_eq.mpr c3
      have c3b1 : (a0_1 != 1) = false := bne_eq_false_iff_eq.mpr c3
      clear c3
      by_cases c4 : a0_8 = 1
      · rw [if_pos c4] at H
        have c4b0 : (a0_8 == 1) = true := beq_iff_eq.mpr c4
        have c4b1 : (a0_8 != 1) = false := bne_eq_false_iff_eq.mpr c4
        clear c4
        obtain rfl := Option.some.inj H
        go_enter Try.func11, Try.ntmps11
        go_wp2_with (first | ((with_reducible refine gate_dst (N := 1) rfl ?_); refine box_event ?hg (N := 1) ?hd (cs := #[.int .i64 a0_0, .int .i64 a0_1, .int .u32 a0_2, .int .u32 a0_3, .int .u32 a0_4, .int .u32 a0_5, .int .u32 a0_6, .int .u32 a0_7, .int .i64 a0_8]) (t := 25) ?hr ?_; (case hd => rfl); (case hg => rfl); (case hr => first | (go_simp; done) | (go_simp; rfl)); intro gb181 hg w5 hbox hb; have n0_ := Aside0.mk (below_step (by repeat (first | (with_reducible first | exact HB.out | apply below_alloc | apply pw_below_drewN | apply below_drew1) | exact HB.out)) hb); have n1_ := Aside0.mk (hbox); have n2_ := Aside0.mk ((by rw [hg]; exact (below_size (by repeat (first | (with_reducible first | exact HB.out | apply below_alloc | apply pw_below_drewN | apply below_drew1) | exact HB.out))) : w.heap.size ≤ gb181)); have n3_ := Aside0.mk ((by rw [hg]; exact (below_size (by repeat (first | (with_reducible first | exact HB.out | apply below_alloc | apply pw_below_drewN | apply below_drew1) | exact HB.out))) : w.heap.size ≤ gb181)); clear HB; have HB := n0_; have BK181 := n1_; have GW181 := n2_; have GE181 := n3_; clear n0_ n1_ n2_ n3_; clear hb hbox hg; have hcz6_0 : w5.cell? ⟨gb181, 0, none⟩ = some (.int .i64 a0_0) := (blk_cell BK181.out 0).trans rfl; have hcz6_1 : w5.cell? ⟨gb181, 1, none⟩ = some (.int .i64 a0_1) := (blk_cell BK181.out 1).trans rfl; have hcz6_2 : w5.cell? ⟨gb181, 2, none⟩ = some (.int .u32 a0_2) := (blk_cell BK181.out 2).trans rfl; have hcz6_3 : w5.cell? ⟨gb181, 3, none⟩ = some (.int .u32 a0_3) := (blk_cell BK181.out 3).trans rfl; have hcz6_4 : w5.cell? ⟨gb181, 4, none⟩ = some (.int .u32 a0_4) := (blk_cell BK181.out 4).trans rfl; have hcz6_5 : w5.cell? ⟨gb181, 5, none⟩ = some (.int .u32 a0_5) := (blk_cell BK181.out 5).trans rfl; have hcz6_6 : w5.cell? ⟨gb181, 6, none⟩ = some (.int .u32 a0_6) := (blk_cell BK181.out 6).trans rfl; have hcz6_7 : w5.cell? ⟨gb181, 7, none⟩ = some (.int .u32 a0_7) := (blk_cell BK181.out 7).trans rfl; have hcz6_8 : w5.cell? ⟨gb181, 8, none⟩ = some (.int .i64 a0_8) := (blk_cell BK181.out 8).trans rfl; have hfz6_0 := blk_frozen BK181.out 0; have hfz6_1 := blk_frozen BK181.out 1; have hfz6_2 := blk_frozen BK181.out 2; have hfz6_3 := blk_frozen BK181.out 3; have hfz6_4 := blk_frozen BK181.out 4; have hfz6_5 := blk_frozen BK181.out 5; have hfz6_6 := blk_frozen BK181.out 6; have hfz6_7 := blk_frozen BK181.out 7; have hfz6_8 := blk_frozen BK181.out 8))
        go_ret
        exact ⟨by first | rfl | (simp [errW_none, errW_some] <;> rfl) | (simp [*, errW_none, errW_some] <;> rfl), by repeat (first | (with_reducible first | exact HB.out | apply below_alloc | apply pw_below_drewN | apply below_drew1 | refine below_set ?_ GE181.out) | exact HB.out)⟩
      · rw [if_neg c4] at H
        have c4b0 : (a0_8 == 1) = false := beq_eq_false_iff_ne.mpr c4
        have c4b1 : (a0_8 != 1) = true := bne_iff_ne.mpr c4
        by_cases c7 : a0_8 = 2
        · rw [if_pos c7] at H
          have c7b0 : (a0_8 == 2) = true := beq_iff_eq.mpr c7
          have c7b1 : (a0_8 != 2) = false := bne_eq_false_iff_eq.mpr c7
          clear c7
          obtain rfl := Option.some.inj H
          go_enter Try.func11, Try.ntmps11
          go_wp2_with (first | ((with_reducible refine gate_dst (N := 1) rfl ?_); refine box_event ?hg (N := 1) ?hd (cs := #[.int .i64 a0_0, .int .i64 a0_1, .int .u32 a0_2, .int .u32 a0_3, .int .u32 a0_4, .int .u32 a0_5, .int .u32 a0_6, .int .u32 a0_7, .int .i64 a0_8]) (t := 25) ?hr ?_; (case hd => rfl); (case hg => rfl); (case hr => first | (go_simp; done) | (go_simp; rfl)); intro gb181 hg w8 hbox hb; have n0_ := Aside0.mk (below_step (by repeat (first | (with_reducible first | exact HB.out | apply below_alloc | apply pw_below_drewN | apply below_drew1) | exact HB.out)) hb); have n1_ := Aside0.mk (hbox); have n2_ := Aside0.mk ((by rw [hg]; exact (below_size (by repeat (first | (with_reducible first | exact HB.out | apply below_alloc | apply pw_below_drewN | apply below_drew1) | exact HB.out))) : w.heap.size ≤ gb181)); have n3_ := Aside0.mk ((by rw [hg]; exact (below_size (by repeat (first | (with_reducible first | exact HB.out | apply below_alloc | apply pw_below_drewN | apply below_drew1) | exact HB.out))) : w.heap.size ≤ gb181)); clear HB; have HB := n0_; have BK181 := n1_; have GW181 := n2_; have GE181 := n3_; clear n0_ n1_ n2_ n3_; clear hb hbox hg; have hcz9_0 : w8.cell? ⟨gb181, 0, none⟩ = some (.int .i64 a0_0) := (blk_cell BK181.out 0).trans rfl; have hcz9_1 : w8.cell? ⟨gb181, 1, none⟩ = some (.int .i64 a0_1) := (blk_cell BK181.out 1).trans rfl; have hcz9_2 : w8.cell? ⟨gb181, 2, none⟩ = some (.int .u32 a0_2) := (blk_cell BK181.out 2).trans rfl; have hcz9_3 : w8.cell? ⟨gb181, 3, none⟩ = some (.int .u32 a0_3) := (blk_cell BK181.out 3).trans rfl; have hcz9_4 : w8.cell? ⟨gb181, 4, none⟩ = some (.int .u32 a0_4) := (blk_cell BK181.out 4).trans rfl; have hcz9_5 : w8.cell? ⟨gb181, 5, none⟩ = some (.int .u32 a0_5) := (blk_cell BK181.out 5).trans rfl; have hcz9_6 : w8.cell? ⟨gb181, 6, none⟩ = some (.int .u32 a0_6) := (blk_cell BK181.out 6).trans rfl; have hcz9_7 : w8.cell? ⟨gb181, 7, none⟩ = some (.int .u32 a0_7) := (blk_cell BK181.out 7).trans rfl; have hcz9_8 : w8.cell? ⟨gb181, 8, none⟩ = some (.int .i64 a0_8) := (blk_cell BK181.out 8).trans rfl; have hfz9_0 := blk_frozen BK181.out 0; have hfz9_1 := blk_frozen BK181.out 1; have hfz9_2 := blk_frozen BK181.out 2; have hfz9_3 := blk_frozen BK181.out 3; have hfz9_4 := blk_frozen BK181.out 4; have hfz9_5 := blk_frozen BK181.out 5; have hfz9_6 := blk_frozen BK181.out 6; have hfz9_7 := blk_frozen BK181.out 7; have hfz9_8 := blk_frozen BK181.out 8))
          go_ret
          exact ⟨by first | rfl | (simp [errW_none, errW_some] <;> rfl) | (simp [*, errW_none, errW_some] <;> rfl), by repeat (first | (with_reducible first | exact HB.out | apply below_alloc | apply pw_below_drewN | apply below_drew1 | refine below_set ?_ GE181.out) | exact HB.out)⟩
        · rw [if_neg c7] at H
          have c7b0 : (a0_8 == 2) = false := beq_eq_false_iff_ne.mpr c7
          have c7b1 : (a0_8 != 2) = true := bne_iff_ne.mpr c7
          obtain rfl := Option.some.inj H
          go_enter Try.func11, Try.ntmps11
          go_wp2_with (first | ((with_reducible refine gate_dst (N := 1) rfl ?_); refine box_event ?hg (N := 1) ?hd (cs := #[.int .i64 a0_0, .int .i64 a0_1, .int .u32 a0_2, .int .u32 a0_3, .int .u32 a0_4, .int .u32 a0_5, .int .u32 a0_6, .int .u32 a0_7, .int .i64 a0_8]) (t := 25) ?hr ?_; (case hd => rfl); (case hg => rfl); (case hr => first | (go_simp; done) | (go_simp; rfl)); intro gb181 hg w10 hbox hb; have n0_ := Aside0.mk (below_step (by repeat (first | (with_reducible first | exact HB.out | apply below_alloc | apply pw_below_drewN | apply below_drew1) | exact HB.out)) hb); have n1_ := Aside0.mk (hbox); have n2_ := Aside0.mk ((by rw [hg]; exact (below_size (by repeat (first | (with_reducible first | exact HB.out | apply below_alloc | apply pw_below_drewN | apply below_drew1) | exact HB.out))) : w.heap.size ≤ gb181)); have n3_ := Aside0.mk ((by rw [hg]; exact (below_size (by repeat (first | (with_reducible first | exact HB.out | apply below_alloc | apply pw_below_drewN | apply below_drew1) | exact HB.out))) : w.heap.size ≤ gb181)); clear HB; have HB := n0_; have BK181 := n1_; have GW181 := n2_; have GE181 := n3_; clear n0_ n1_ n2_ n3_; clear hb hbox hg; have hcz11_0 : w10.cell? ⟨gb181, 0, none⟩ = some (.int .i64 a0_0) := (blk_cell BK181.out 0).trans rfl; have hcz11_1 : w10.cell? ⟨gb181, 1, none⟩ = some (.int .i64 a0_1) := (blk_cell BK181.out 1).trans rfl; have hcz11_2 : w10.cell? ⟨gb181, 2, none⟩ = some (.int .u32 a0_2) := (blk_cell BK181.out 2).trans rfl; have hcz11_3 : w10.cell? ⟨gb181, 3, none⟩ = some (.int .u32 a0_3) := (blk_cell BK181.out 3).trans rfl; have hcz11_4 : w10.cell? ⟨gb181, 4, none⟩ = some (.int .u32 a0_4) := (blk_cell BK181.out 4).trans rfl; have hcz11_5 : w10.cell? ⟨gb181, 5, none⟩ = some (.int .u32 a0_5) := (blk_cell BK181.out 5).trans rfl; have hcz11_6 : w10.cell? ⟨gb181, 6, none⟩ = some (.int .u32 a0_6) := (blk_cell BK181.out 6).trans rfl; have hcz11_7 : w10.cell? ⟨gb181, 7, none⟩ = some (.int .u32 a0_7) := (blk_cell BK181.out 7).trans rfl; have hcz11_8 : w10.cell? ⟨gb181, 8, none⟩ = some (.int .i64 a0_8) := (blk_cell BK181.out 8).trans rfl; have hfz11_0 := blk_frozen BK181.out 0; have hfz11_1 := blk_frozen BK181.out 1; have hfz11_2 := blk_frozen BK181.out 2; have hfz11_3 := blk_frozen BK181.out 3; have hfz11_4 := blk_frozen BK181.out 4; have hfz11_5 := blk_frozen BK181.out 5; have hfz11_6 := blk_frozen BK181.out 6; have hfz11_7 := blk_frozen BK181.out 7; have hfz11_8 := blk_frozen BK181.out 8))
          go_ret
          exact ⟨by first | rfl | (simp [errW_none, errW_some] <;> rfl) | (simp [*, errW_none, errW_some] <;> rfl), by repeat (first | (with_reducible first | exact HB.out | apply below_alloc | apply pw_below_drewN | apply below_drew1 | refine below_set ?_ GE181.out) | exact HB.out)⟩
    · rw [if_neg c3] at H
      have c3b0 : (a0_1 == 1) = false := beq_eq_false_iff_ne.mpr c3
      have c3b1 : (a0_1 != 1) = true := bne_iff_ne.mpr c3
      by_cases c12 : a0_1 = 2
      · rw [if_pos c12] at H
        have c12b0 : (a0_1 == 2) = true := beq_iff_eq.mpr c12
        have c12b1 : (a0_1 != 2) = false := bne_eq_false_iff_eq.mpr c12
        clear c12
        by_cases c13 : a0_8 = 1
        · rw [if_pos c13] at H
          have c13b0 : (a0_8 == 1) = true := beq_iff_eq.mpr c13
          have c13b1 : (a0_8 != 1) = false := bne_eq_false_iff_eq.mpr c13
          clear c13
          obtain rfl := Option.some.inj H
          go_enter Try.func11, Try.ntmps11
          go_wp2_with (first | ((with_reducible refine gate_dst (N := 1) rfl ?_); refine box_event ?hg (N := 1) ?hd (cs := #[.int .i64 a0_0, .int .i64 a0_1, .int .u32 a0_2, .int .u32 a0_3, .int .u32 a0_4, .int .u32 a0_5, .int .u32 a0_6, .int .u32 a0_7, .int .i64 a0_8]) (t := 25) ?hr ?_; (case hd => rfl); (case hg => rfl); (case hr => first | (go_simp; done) | (go_simp; rfl)); intro gb181 hg w14 hbox hb; have n0_ := Aside0.mk (below_step (by repeat (first | (with_reducible first | exact HB.out | apply below_alloc | apply pw_below_drewN | apply below_drew1) | exact HB.out)) hb); have n1_ := Aside0.mk (hbox); have n2_ := Aside0.mk ((by rw [hg]; exact (below_size (by repeat (first | (with_reducible first | exact HB.out | apply below_alloc | apply pw_below_drewN | apply below_drew1) | exact HB.out))) : w.heap.size ≤ gb181)); have n3_ := Aside0.mk ((by rw [hg]; exact (below_size (by repeat (first | (with_reducible first | exact HB.out | apply below_alloc | apply pw_below_drewN | apply below_drew1) | exact HB.out))) : w.heap.size ≤ gb181)); clear HB; have HB := n0_; have BK181 := n1_; have GW181 := n2_; have GE181 := n3_; clear n0_ n1_ n2_ n3_; clear hb hbox hg; have hcz15_0 : w14.cell? ⟨gb181, 0, none⟩ = some (.int .i64 a0_0) := (blk_cell BK181.out 0).trans rfl; have hcz15_1 : w14.cell? ⟨gb181, 1, none⟩ = some (.int .i64 a0_1) := (blk_cell BK181.out 1).trans rfl; have hcz15_2 : w14.cell? ⟨gb181, 2, none⟩ = some (.int .u32 a0_2) := (blk_cell BK181.out 2).trans rfl; have hcz15_3 : w14.cell? ⟨gb181, 3, none⟩ = some (.int .u32 a0_3) := (blk_cell BK181.out 3).trans rfl; have hcz15_4 : w14.cell? ⟨gb181, 4, none⟩ = some (.int .u32 a0_4) := (blk_cell BK181.out 4).trans rfl; have hcz15_5 : w14.cell? ⟨gb181, 5, none⟩ = some (.int .u32 a0_5) := (blk_cell BK181.out 5).trans rfl; have hcz15_6 : w14.cell? ⟨gb181, 6, none⟩ = some (.int .u32 a0_6) := (blk_cell BK181.out 6).trans rfl; have hcz15_7 : w14.cell? ⟨gb181, 7, none⟩ = some (.int .u32 a0_7) := (blk_cell BK181.out 7).trans rfl; have hcz15_8 : w14.cell? ⟨gb181, 8, none⟩ = some (.int .i64 a0_8) := (blk_cell BK181.out 8).trans rfl; have hfz15_0 := blk_frozen BK181.out 0; have hfz15_1 := blk_frozen BK181.out 1; have hfz15_2 := blk_frozen BK181.out 2; have hfz15_3 := blk_frozen BK181.out 3; have hfz15_4 := blk_frozen BK181.out 4; have hfz15_5 := blk_frozen BK181.out 5; have hfz15_6 := blk_frozen BK181.out 6; have hfz15_7 := blk_frozen BK181.out 7; have hfz15_8 := blk_frozen BK181.out 8))
          go_ret
          exact ⟨by first | rfl | (simp [errW_none, errW_some] <;> rfl) | (simp [*, errW_none, errW_some] <;> rfl), by repeat (first | (with_reducible first | exact HB.out | apply below_alloc | apply pw_below_drewN | apply below_drew1 | refine below_set ?_ GE181.out) | exact HB.out)⟩
        · rw [if_neg c13] at H
          have c13b0 : (a0_8 == 1) = false := beq_eq_false_iff_ne.mpr c13
          have c13b1 : (a0_8 != 1) = true := bne_iff_ne.mpr c13
          by_cases c16 : a0_8 = 2
          · rw [if_pos c16] at H
            have c16b0 : (a0_8 == 2) = true := beq_iff_eq.mpr c16
            have c16b1 : (a0_8 != 2) = false := bne_eq_false_iff_eq.mpr c16
            clear c16
            obtain rfl := Option.some.inj H
            go_enter Try.func11, Try.ntmps11
            go_wp2_with (first | ((with_reducible refine gate_dst (N := 1) rfl ?_); refine box_event ?hg (N := 1) ?hd (cs := #[.int .i64 a0_0, .int .i64 a0_1, .int .u32 a0_2, .int .u32 a0_3, .int .u32 a0_4, .int .u32 a0_5, .int .u32 a0_6, .int .u32 a0_7, .int .i64 a0_8]) (t := 25) ?hr ?_; (case hd => rfl); (case hg => rfl); (case hr => first | (go_simp; done) | (go_simp; rfl)); intro gb181 hg w17 hbox hb; have n0_ := Aside0.mk (below_step (by repeat (first | (with_reducible first | exact HB.out | apply below_alloc | apply pw_below_drewN | apply below_drew1) | exact HB.out)) hb); have n1_ := Aside0.mk (hbox); have n2_ := Aside0.mk ((by rw [hg]; exact (below_size (by repeat (first | (with_reducible first | exact HB.out | apply below_alloc | apply pw_below_drewN | apply below_drew1) | exact HB.out))) : w.heap.size ≤ gb181)); have n3_ := Aside0.mk ((by rw [hg]; exact (below_size (by repeat (first | (with_reducible first | exact HB.out | apply below_alloc | apply pw_below_drewN | apply below_drew1) | exact HB.out))) : w.heap.size ≤ gb181)); clear HB; have HB := n0_; have BK181 := n1_; have GW181 := n2_; have GE181 := n3_; clear n0_ n1_ n2_ n3_; clear hb hbox hg; have hcz18_0 : w17.cell? ⟨gb181, 0, none⟩ = some (.int .i64 a0_0) := (blk_cell BK181.out 0).trans rfl; have hcz18_1 : w17.cell? ⟨gb181, 1, none⟩ = some (.int .i64 a0_1) := (blk_cell BK181.out 1).trans rfl; have hcz18_2 : w17.cell? ⟨gb181, 2, none⟩ = some (.int .u32 a0_2) := (blk_cell BK181.out 2).trans rfl; have hcz18_3 : w17.cell? ⟨gb181, 3, none⟩ = some (.int .u32 a0_3) := (blk_cell BK181.out 3).trans rfl; have hcz18_4 : w17.cell? ⟨gb181, 4, none⟩ = some (.int .u32 a0_4) := (blk_cell BK181.out 4).trans rfl; have hcz18_5 : w17.cell? ⟨gb181, 5, none⟩ = some (.int .u32 a0_5) := (blk_cell BK181.out 5).trans rfl; have hcz18_6 : w17.cell? ⟨gb181, 6, none⟩ = some (.int .u32 a0_6) := (blk_cell BK181.out 6).trans rfl; have hcz18_7 : w17.cell? ⟨gb181, 7, none⟩ = some (.int .u32 a0_7) := (blk_cell BK181.out 7).trans rfl; have hcz18_8 : w17.cell? ⟨gb181, 8, none⟩ = some (.int .i64 a0_8) := (blk_cell BK181.out 8).trans rfl; have hfz18_0 := blk_frozen BK181.out 0; have hfz18_1 := blk_frozen BK181.out 1; have hfz18_2 := blk_frozen BK181.out 2; have hfz18_3 := blk_frozen BK181.out 3; have hfz18_4 := blk_frozen BK181.out 4; have hfz18_5 := blk_frozen BK181.out 5; have hfz18_6 := blk_frozen BK181.out 6; have hfz18_7 := blk_frozen BK181.out 7; have hfz18_8 := blk_frozen BK181.out 8))
            go_ret
            exact ⟨by first | rfl | (simp [errW_none, errW_some] <;> rfl) | (simp [*, errW_none, errW_some] <;> rfl), by repeat (first | (with_reducible first | exact HB.out | apply below_alloc | apply pw_below_drewN | apply below_drew1 | refine below_set ?_ GE181.out) | exact HB.out)⟩
          · rw [if_neg c16] at H
            have c16b0 : (a0_8 == 2) = false := beq_eq_false_iff_ne.mpr c16
            have c16b1 : (a0_8 != 2) = true := bne_iff_ne.mpr c16
            obtain rfl := Option.some.inj H
            go_enter Try.func11, Try.ntmps11
            go_wp2_with (first | ((with_reducible refine gate_dst (N := 1) rfl ?_); refine box_event ?hg (N := 1) ?hd (cs := #[.int .i64 a0_0, .int .i64 a0_1, .int .u32 a0_2, .int .u32 a0_3, .int .u32 a0_4, .int .u32 a0_5, .int .u32 a0_6, .int .u32 a0_7, .int .i64 a0_8]) (t := 25) ?hr ?_; (case hd => rfl); (case hg => rfl); (case hr => first | (go_simp; done) | (go_simp; rfl)); intro gb181 hg w19 hbox hb; have n0_ := Aside0.mk (below_step (by repeat (first | (with_reducible first | exact HB.out | apply below_alloc | apply pw_below_drewN | apply below_drew1) | exact HB.out)) hb); have n1_ := Aside0.mk (hbox); have n2_ := Aside0.mk ((by rw [hg]; exact (below_size (by repeat (first | (with_reducible first | exact HB.out | apply below_alloc | apply pw_below_drewN | apply below_drew1) | exact HB.out))) : w.heap.size ≤ gb181)); have n3_ := Aside0.mk ((by rw [hg]; exact (below_size (by repeat (first | (with_reducible first | exact HB.out | apply below_alloc | apply pw_below_drewN | apply below_drew1) | exact HB.out))) : w.heap.size ≤ gb181)); clear HB; have HB := n0_; have BK181 := n1_; have GW181 := n2_; have GE181 := n3_; clear n0_ n1_ n2_ n3_; clear hb hbox hg; have hcz20_0 : w19.cell? ⟨gb181, 0, none⟩ = some (.int .i64 a0_0) := (blk_cell BK181.out 0).trans rfl; have hcz20_1 : w19.cell? ⟨gb181, 1, none⟩ = some (.int .i64 a0_1) := (blk_cell BK181.out 1).trans rfl; have hcz20_2 : w19.cell? ⟨gb181, 2, none⟩ = some (.int .u32 a0_2) := (blk_cell BK181.out 2).trans rfl; have hcz20_3 : w19.cell? ⟨gb181, 3, none⟩ = some (.int .u32 a0_3) := (blk_cell BK181.out 3).trans rfl; have hcz20_4 : w19.cell? ⟨gb181, 4, none⟩ = some (.int .u32 a0_4) := (blk_cell BK181.out 4).trans rfl; have hcz20_5 : w19.cell? ⟨gb181, 5, none⟩ = some (.int .u32 a0_5) := (blk_cell BK181.out 5).trans rfl; have hcz20_6 : w19.cell? ⟨gb181, 6, none⟩ = some (.int .u32 a0_6) := (blk_cell BK181.out 6).trans rfl; have hcz20_7 : w19.cell? ⟨gb181, 7, none⟩ = some (.int .u32 a0_7) := (blk_cell BK181.out 7).trans rfl; have hcz20_8 : w19.cell? ⟨gb181, 8, none⟩ = some (.int .i64 a0_8) := (blk_cell BK181.out 8).trans rfl; have hfz20_0 := blk_frozen BK181.out 0; have hfz20_1 := blk_frozen BK181.out 1; have hfz20_2 := blk_frozen BK181.out 2; have hfz20_3 := blk_frozen BK181.out 3; have hfz20_4 := blk_frozen BK181.out 4; have hfz20_5 := blk_frozen BK181.out 5; have hfz20_6 := blk_frozen BK181.out 6; have hfz20_7 := blk_frozen BK181.out 7; have hfz20_8 := blk_frozen BK181.out 8))
            go_ret
            exact ⟨by first | rfl | (simp [errW_none, errW_some] <;> rfl) | (simp [*, errW_none, errW_some] <;> rfl), by repeat (first | (with_reducible first | exact HB.out | apply below_alloc | apply pw_below_drewN | apply below_drew1 | refine below_set ?_ GE181.out) | exact HB.out)⟩
      · rw [if_neg c12] at H
        have c12b0 : (a0_1 == 2) = false := beq_eq_false_iff_ne.mpr c12
        have c12b1 : (a0_1 != 2) = true := bne_iff_ne.mpr c12
        obtain rfl := Option.some.inj H
        go_enter Try.func11, Try.ntmps11
        go_wp2_with (first | ((with_reducible refine gate_dst (N := 1) rfl ?_); refine box_event ?hg (N := 1) ?hd (cs := #[.int .i64 a0_0, .int .i64 a0_1, .int .u32 a0_2, .int .u32 a0_3, .int .u32 a0_4, .int .u32 a0_5, .int .u32 a0_6, .int .u32 a0_7, .int .i64 a0_8]) (t := 25) ?hr ?_; (case hd => rfl); (case hg => rfl); (case hr => first | (go_simp; done) | (go_simp; rfl)); intro gb181 hg w21 hbox hb; have n0_ := Aside0.mk (below_step (by repeat (first | (with_reducible first | exact HB.out | apply below_alloc | apply pw_below_drewN | apply below_drew1) | exact HB.out)) hb); have n1_ := Aside0.mk (hbox); have n2_ := Aside0.mk ((by rw [hg]; exact (below_size (by repeat (first | (with_reducible first | exact HB.out | apply below_alloc | apply pw_below_drewN | apply below_drew1) | exact HB.out))) : w.heap.size ≤ gb181)); have n3_ := Aside0.mk ((by rw [hg]; exact (below_size (by repeat (first | (with_reducible first | exact HB.out | apply below_alloc | apply pw_below_drewN | apply below_drew1) | exact HB.out))) : w.heap.size ≤ gb181)); clear HB; have HB := n0_; have BK181 := n1_; have GW181 := n2_; have GE181 := n3_; clear n0_ n1_ n2_ n3_; clear hb hbox hg; have hcz22_0 : w21.cell? ⟨gb181, 0, none⟩ = some (.int .i64 a0_0) := (blk_cell BK181.out 0).trans rfl; have hcz22_1 : w21.cell? ⟨gb181, 1, none⟩ = some (.int .i64 a0_1) := (blk_cell BK181.out 1).trans rfl; have hcz22_2 : w21.cell? ⟨gb181, 2, none⟩ = some (.int .u32 a0_2) := (blk_cell BK181.out 2).trans rfl; have hcz22_3 : w21.cell? ⟨gb181, 3, none⟩ = some (.int .u32 a0_3) := (blk_cell BK181.out 3).trans rfl; have hcz22_4 : w21.cell? ⟨gb181, 4, none⟩ = some (.int .u32 a0_4) := (blk_cell BK181.out 4).trans rfl; have hcz22_5 : w21.cell? ⟨gb181, 5, none⟩ = some (.int .u32 a0_5) := (blk_cell BK181.out 5).trans rfl; have hcz22_6 : w21.cell? ⟨gb181, 6, none⟩ = some (.int .u32 a0_6) := (blk_cell BK181.out 6).trans rfl; have hcz22_7 : w21.cell? ⟨gb181, 7, none⟩ = some (.int .u32 a0_7) := (blk_cell BK181.out 7).trans rfl; have hcz22_8 : w21.cell? ⟨gb181, 8, none⟩ = some (.int .i64 a0_8) := (blk_cell BK181.out 8).trans rfl; have hfz22_0 := blk_frozen BK181.out 0; have hfz22_1 := blk_frozen BK181.out 1; have hfz22_2 := blk_frozen BK181.out 2; have hfz22_3 := blk_frozen BK181.out 3; have hfz22_4 := blk_frozen BK181.out 4; have hfz22_5 := blk_frozen BK181.out 5; have hfz22_6 := blk_frozen BK181.out 6; have hfz22_7 := blk_frozen BK181.out 7; have hfz22_8 := blk_frozen BK181.out 8))
        go_ret
        exact ⟨by first | rfl | (simp [errW_none, errW_some] <;> rfl) | (simp [*, errW_none, errW_some] <;> rfl), by repeat (first | (with_reducible first | exact HB.out | apply below_alloc | apply pw_below_drewN | apply below_drew1 | refine below_set ?_ GE181.out) | exact HB.out)⟩
  · rw [if_neg c2] at H
    have c2b0 : (a0_0 == 1) = false := beq_eq_false_iff_ne.mpr c2
    have c2b1 : (a0_0 != 1) = true := bne_iff_ne.mpr c2
    by_cases c23 : a0_0 = 2
    · rw [if_pos c23] at H
      have c23b0 : (a0_0 == 2) = true := beq_iff_eq.mpr c23
      have c23b1 : (a0_0 != 2) = false := bne_eq_false_iff_eq.mpr c23
      clear c23
      by_cases c24 : a0_1 = 1
      · rw [if_pos c24] at H
        have c24b0 : (a0_1 == 1) = true := beq_iff_eq.mpr c24
        have c24b1 : (a0_1 != 1) = false := bne_eq_false_iff_eq.mpr c24
        clear c24
        by_cases c25 : a0_8 = 1
        · rw [if_pos c25] at H
          have c25b0 : (a0_8 == 1) = true := beq_iff_eq.mpr c25
          have c25b1 : (a0_8 != 1) = false := bne_eq_false_iff_eq.mpr c25
          clear c25
          obtain rfl := Option.some.inj H
          go_enter Try.func11, Try.ntmps11
          go_wp2_with (first | ((with_reducible refine gate_dst (N := 1) rfl ?_); refine box_event ?hg (N := 1) ?hd (cs := #[.int .i64 a0_0, .int .i64 a0_1, .int .u32 a0_2, .int .u32 a0_3, .int .u32 a0_4, .int .u32 a0_5, .int .u32 a0_6, .int .u32 a0_7, .int .i64 a0_8]) (t := 25) ?hr ?_; (case hd => rfl); (case hg => rfl); (case hr => first | (go_simp; done) | (go_simp; rfl)); intro gb181 hg w26 hbox hb; have n0_ := Aside0.mk (below_step (by repeat (first | (with_reducible first | exact HB.out | apply below_alloc | apply pw_below_drewN | apply below_drew1) | exact HB.out)) hb); have n1_ := Aside0.mk (hbox); have n2_ := Aside0.mk ((by rw [hg]; exact (below_size (by repeat (first | (with_reducible first | exact HB.out | apply below_alloc | apply pw_below_drewN | apply below_drew1) | exact HB.out))) : w.heap.size ≤ gb181)); have n3_ := Aside0.mk ((by rw [hg]; exact (below_size (by repeat (first | (with_reducible first | exact HB.out | apply below_alloc | apply pw_below_drewN | apply below_drew1) | exact HB.out))) : w.heap.size ≤ gb181)); clear HB; have HB := n0_; have BK181 := n1_; have GW181 := n2_; have GE181 := n3_; clear n0_ n1_ n2_ n3_; clear hb hbox hg; have hcz27_0 : w26.cell? ⟨gb181, 0, none⟩ = some (.int .i64 a0_0) := (blk_cell BK181.out 0).trans rfl; have hcz27_1 : w26.cell? ⟨gb181, 1, none⟩ = some (.int .i64 a0_1) := (blk_cell BK181.out 1).trans rfl; have hcz27_2 : w26.cell? ⟨gb181, 2, none⟩ = some (.int .u32 a0_2) := (blk_cell BK181.out 2).trans rfl; have hcz27_3 : w26.cell? ⟨gb181, 3, none⟩ = some (.int .u32 a0_3) := (blk_cell BK181.out 3).trans rfl; have hcz27_4 : w26.cell? ⟨gb181, 4, none⟩ = some (.int .u32 a0_4) := (blk_cell BK181.out 4).trans rfl; have hcz27_5 : w26.cell? ⟨gb181, 5, none⟩ = some (.int .u32 a0_5) := (blk_cell BK181.out 5).trans rfl; have hcz27_6 : w26.cell? ⟨gb181, 6, none⟩ = some (.int .u32 a0_6) := (blk_cell BK181.out 6).trans rfl; have hcz27_7 : w26.cell? ⟨gb181, 7, none⟩ = some (.int .u32 a0_7) := (blk_cell BK181.out 7).trans rfl; have hcz27_8 : w26.cell? ⟨gb181, 8, none⟩ = some (.int .i64 a0_8) := (blk_cell BK181.out 8).trans rfl; have hfz27_0 := blk_frozen BK181.out 0; have hfz27_1 := blk_frozen BK181.out 1; have hfz27_2 := blk_frozen BK181.out 2; have hfz27_3 := blk_frozen BK181.out 3; have hfz27_4 := blk_frozen BK181.out 4; have hfz27_5 := blk_frozen BK181.out 5; have hfz27_6 := blk_frozen BK181.out 6; have hfz27_7 := blk_frozen BK181.out 7; have hfz27_8 := blk_frozen BK181.out 8))
          go_ret
          exact ⟨by first | rfl | (simp [errW_none, errW_some] <;> rfl) | (simp [*, errW_none, errW_some] <;> rfl), by repeat (first | (with_reducible first | exact HB.out | apply below_alloc | apply pw_below_drewN | apply below_drew1 | refine below_set ?_ GE181.out) | exact HB.out)⟩
        · rw [if_neg c25] at H
          have c25b0 : (a0_8 == 1) = false := beq_eq_false_iff_ne.mpr c25
          have c25b1 : (a0_8 != 1) = true := bne_iff_ne.mpr c25
          by_cases c28 : a0_8 = 2
          · rw [if_pos c28] at H
            have c28b0 : (a0_8 == 2) = true := beq_iff_eq.mpr c28
            have c28b1 : (a0_8 != 2) = false := bne_eq_false_iff_eq.mpr c28
            clear c28
            obtain rfl := Option.some.inj H
            go_enter Try.func11, Try.ntmps11
            go_wp2_with (first | ((with_reducible refine gate_dst (N := 1) rfl ?_); refine box_event ?hg (N := 1) ?hd (cs := #[.int .i64 a0_0, .int .i64 a0_1, .int .u32 a0_2, .int .u32 a0_3, .int .u32 a0_4, .int .u32 a0_5, .int .u32 a0_6, .int .u32 a0_7, .int .i64 a0_8]) (t := 25) ?hr ?_; (case hd => rfl); (case hg => rfl); (case hr => first | (go_simp; done) | (go_simp; rfl)); intro gb181 hg w29 hbox hb; have n0_ := Aside0.mk (below_step (by repeat (first | (with_reducible first | exact HB.out | apply below_alloc | apply pw_below_drewN | apply below_drew1) | exact HB.out)) hb); have n1_ := Aside0.mk (hbox); have n2_ := Aside0.mk ((by rw [hg]; exact (below_size (by repeat (first | (with_reducible first | exact HB.out | apply below_alloc | apply pw_below_drewN | apply below_drew1) | exact HB.out))) : w.heap.size ≤ gb181)); have n3_ := Aside0.mk ((by rw [hg]; exact (below_size (by repeat (first | (with_reducible first | exact HB.out | apply below_alloc | apply pw_below_drewN | apply below_drew1) | exact HB.out))) : w.heap.size ≤ gb181)); clear HB; have HB := n0_; have BK181 := n1_; have GW181 := n2_; have GE181 := n3_; clear n0_ n1_ n2_ n3_; clear hb hbox hg; have hcz30_0 : w29.cell? ⟨gb181, 0, none⟩ = some (.int .i64 a0_0) := (blk_cell BK181.out 0).trans rfl; have hcz30_1 : w29.cell? ⟨gb181, 1, none⟩ = some (.int .i64 a0_1) := (blk_cell BK181.out 1).trans rfl; have hcz30_2 : w29.cell? ⟨gb181, 2, none⟩ = some (.int .u32 a0_2) := (blk_cell BK181.out 2).trans rfl; have hcz30_3 : w29.cell? ⟨gb181, 3, none⟩ = some (.int .u32 a0_3) := (blk_cell BK181.out 3).trans rfl; have hcz30_4 : w29.cell? ⟨gb181, 4, none⟩ = some (.int .u32 a0_4) := (blk_cell BK181.out 4).trans rfl; have hcz30_5 : w29.cell? ⟨gb181, 5, none⟩ = some (.int .u32 a0_5) := (blk_cell BK181.out 5).trans rfl; have hcz30_6 : w29.cell? ⟨gb181, 6, none⟩ = some (.int .u32 a0_6) := (blk_cell BK181.out 6).trans rfl; have hcz30_7 : w29.cell? ⟨gb181, 7, none⟩ = some (.int .u32 a0_7) := (blk_cell BK181.out 7).trans rfl; have hcz30_8 : w29.cell? ⟨gb181, 8, none⟩ = some (.int .i64 a0_8) := (blk_cell BK181.out 8).trans rfl; have hfz30_0 := blk_frozen BK181.out 0; have hfz30_1 := blk_frozen BK181.out 1; have hfz30_2 := blk_frozen BK181.out 2; have hfz30_3 := blk_frozen BK181.out 3; have hfz30_4 := blk_frozen BK181.out 4; have hfz30_5 := blk_frozen BK181.out 5; have hfz30_6 := blk_frozen BK181.out 6; have hfz30_7 := blk_frozen BK181.out 7; have hfz30_8 := blk_frozen BK181.out 8))
            go_ret
            exact ⟨by first | rfl | (simp [errW_none, errW_some] <;> rfl) | (simp [*, errW_none, errW_some] <;> rfl), by repeat (first | (with_reducible first | exact HB.out | apply below_alloc | apply pw_below_drewN | apply below_drew1 | refine below_set ?_ GE181.out) | exact HB.out)⟩
          · rw [if_neg c28] at H
            have c28b0 : (a0_8 == 2) = false := beq_eq_false_iff_ne.mpr c28
            have c28b1 : (a0_8 != 2) = true := bne_iff_ne.mpr c28
            obtain rfl := Option.some.inj H
            go_enter Try.func11, Try.ntmps11
            go_wp2_with (first | ((with_reducible refine gate_dst (N := 1) rfl ?_); refine box_event ?hg (N := 1) ?hd (cs := #[.int .i64 a0_0, .int .i64 a0_1, .int .u32 a0_2, .int .u32 a0_3, .int .u32 a0_4, .int .u32 a0_5, .int .u32 a0_6, .int .u32 a0_7, .int .i64 a0_8]) (t := 25) ?hr ?_; (case hd => rfl); (case hg => rfl); (case hr => first | (go_simp; done) | (go_simp; rfl)); intro gb181 hg w31 hbox hb; have n0_ := Aside0.mk (below_step (by repeat (first | (with_reducible first | exact HB.out | apply below_alloc | apply pw_below_drewN | apply below_drew1) | exact HB.out)) hb); have n1_ := Aside0.mk (hbox); have n2_ := Aside0.mk ((by rw [hg]; exact (below_size (by repeat (first | (with_reducible first | exact HB.out | apply below_alloc | apply pw_below_drewN | apply below_drew1) | exact HB.out))) : w.heap.size ≤ gb181)); have n3_ := Aside0.mk ((by rw [hg]; exact (below_size (by repeat (first | (with_reducible first | exact HB.out | apply below_alloc | apply pw_below_drewN | apply below_drew1) | exact HB.out))) : w.heap.size ≤ gb181)); clear HB; have HB := n0_; have BK181 := n1_; have GW181 := n2_; have GE181 := n3_; clear n0_ n1_ n2_ n3_; clear hb hbox hg; have hcz32_0 : w31.cell? ⟨gb181, 0, none⟩ = some (.int .i64 a0_0) := (blk_cell BK181.out 0).trans rfl; have hcz32_1 : w31.cell? ⟨gb181, 1, none⟩ = some (.int .i64 a0_1) := (blk_cell BK181.out 1).trans rfl; have hcz32_2 : w31.cell? ⟨gb181, 2, none⟩ = some (.int .u32 a0_2) := (blk_cell BK181.out 2).trans rfl; have hcz32_3 : w31.cell? ⟨gb181, 3, none⟩ = some (.int .u32 a0_3) := (blk_cell BK181.out 3).trans rfl; have hcz32_4 : w31.cell? ⟨gb181, 4, none⟩ = some (.int .u32 a0_4) := (blk_cell BK181.out 4).trans rfl; have hcz32_5 : w31.cell? ⟨gb181, 5, none⟩ = some (.int .u32 a0_5) := (blk_cell BK181.out 5).trans rfl; have hcz32_6 : w31.cell? ⟨gb181, 6, none⟩ = some (.int .u32 a0_6) := (blk_cell BK181.out 6).trans rfl; have hcz32_7 : w31.cell? ⟨gb181, 7, none⟩ = some (.int .u32 a0_7) := (blk_cell BK181.out 7).trans rfl; have hcz32_8 : w31.cell? ⟨gb181, 8, none⟩ = some (.int .i64 a0_8) := (blk_cell BK181.out 8).trans rfl; have hfz32_0 := blk_frozen BK181.out 0; have hfz32_1 := blk_frozen BK181.out 1; have hfz32_2 := blk_frozen BK181.out 2; have hfz32_3 := blk_frozen BK181.out 3; have hfz32_4 := blk_frozen BK181.out 4; have hfz32_5 := blk_frozen BK181.out 5; have hfz32_6 := blk_frozen BK181.out 6; have hfz32_7 := blk_frozen BK181.out 7; have hfz32_8 := blk_frozen BK181.out 8))
            go_ret
            exact ⟨by first | rfl | (simp [errW_none, errW_some] <;> rfl) | (simp [*, errW_none, errW_some] <;> rfl), by repeat (first | (with_reducible first | exact HB.out | apply below_alloc | apply pw_below_drewN | apply below_drew1 | refine below_set ?_ GE181.out) | exact HB.out)⟩
      · rw [if_neg c24] at H
        have c24b0 : (a0_1 == 1) = false := beq_eq_false_iff_ne.mpr c24
        have c24b1 : (a0_1 != 1) = true := bne_iff_ne.mpr c24
        by_cases c33 : a0_1 = 2
        · rw [if_pos c33] at H
          have c33b0 : (a0_1 == 2) = true := beq_iff_eq.mpr c33
          have c33b1 : (a0_1 != 2) = false := bne_eq_false_iff_eq.mpr c33
          clear c33
          by_cases c34 : a0_8 = 1
          · rw [if_pos c34] at H
            have c34b0 : (a0_8 == 1) = true := beq_iff_eq.mpr c34
            have c34b1 : (a0_8 != 1) = false := bne_eq_false_iff_eq.mpr c34
            clear c34
            obtain rfl := Option.some.inj H
            go_enter Try.func11, Try.ntmps11
            go_wp2_with (first | ((with_reducible refine gate_dst (N := 1) rfl ?_); refine box_event ?hg (N := 1) ?hd (cs := #[.int .i64 a0_0, .int .i64 a0_1, .int .u32 a0_2, .int .u32 a0_3, .int .u32 a0_4, .int .u32 a0_5, .int .u32 a0_6, .int .u32 a0_7, .int .i64 a0_8]) (t := 25) ?hr ?_; (case hd => rfl); (case hg => rfl); (case hr => first | (go_simp; done) | (go_simp; rfl)); intro gb181 hg w35 hbox hb; have n0_ := Aside0.mk (below_step (by repeat (first | (with_reducible first | exact HB.out | apply below_alloc | apply pw_below_drewN | apply below_drew1) | exact HB.out)) hb); have n1_ := Aside0.mk (hbox); have n2_ := Aside0.mk ((by rw [hg]; exact (below_size (by repeat (first | (with_reducible first | exact HB.out | apply below_alloc | apply pw_below_drewN | apply below_drew1) | exact HB.out))) : w.heap.size ≤ gb181)); have n3_ := Aside0.mk ((by rw [hg]; exact (below_size (by repeat (first | (with_reducible first | exact HB.out | apply below_alloc | apply pw_below_drewN | apply below_drew1) | exact HB.out))) : w.heap.size ≤ gb181)); clear HB; have HB := n0_; have BK181 := n1_; have GW181 := n2_; have GE181 := n3_; clear n0_ n1_ n2_ n3_; clear hb hbox hg; have hcz36_0 : w35.cell? ⟨gb181, 0, none⟩ = some (.int .i64 a0_0) := (blk_cell BK181.out 0).trans rfl; have hcz36_1 : w35.cell? ⟨gb181, 1, none⟩ = some (.int .i64 a0_1) := (blk_cell BK181.out 1).trans rfl; have hcz36_2 : w35.cell? ⟨gb181, 2, none⟩ = some (.int .u32 a0_2) := (blk_cell BK181.out 2).trans rfl; have hcz36_3 : w35.cell? ⟨gb181, 3, none⟩ = some (.int .u32 a0_3) := (blk_cell BK181.out 3).trans rfl; have hcz36_4 : w35.cell? ⟨gb181, 4, none⟩ = some (.int .u32 a0_4) := (blk_cell BK181.out 4).trans rfl; have hcz36_5 : w35.cell? ⟨gb181, 5, none⟩ = some (.int .u32 a0_5) := (blk_cell BK181.out 5).trans rfl; have hcz36_6 : w35.cell? ⟨gb181, 6, none⟩ = some (.int .u32 a0_6) := (blk_cell BK181.out 6).trans rfl; have hcz36_7 : w35.cell? ⟨gb181, 7, none⟩ = some (.int .u32 a0_7) := (blk_cell BK181.out 7).trans rfl; have hcz36_8 : w35.cell? ⟨gb181, 8, none⟩ = some (.int .i64 a0_8) := (blk_cell BK181.out 8).trans rfl; have hfz36_0 := blk_frozen BK181.out 0; have hfz36_1 := blk_frozen BK181.out 1; have hfz36_2 := blk_frozen BK181.out 2; have hfz36_3 := blk_frozen BK181.out 3; have hfz36_4 := blk_frozen BK181.out 4; have hfz36_5 := blk_frozen BK181.out 5; have hfz36_6 := blk_frozen BK181.out 6; have hfz36_7 := blk_frozen BK181.out 7; have hfz36_8 := blk_frozen BK181.out 8))
            go_ret
            exact ⟨by first | rfl | (simp [errW_none, errW_some] <;> rfl) | (simp [*, errW_none, errW_some] <;> rfl), by repeat (first | (with_reducible first | exact HB.out | apply below_alloc | apply pw_below_drewN | apply below_drew1 | refine below_set ?_ GE181.out) | exact HB.out)⟩
          · rw [if_neg c34] at H
            have c34b0 : (a0_8 == 1) = false := beq_eq_false_iff_ne.mpr c34
            have c34b1 : (a0_8 != 1) = true := bne_iff_ne.mpr c34
            by_cases c37 : a0_8 = 2
            · rw [if_pos c37] at H
              have c37b0 : (a0_8 == 2) = true := beq_iff_eq.mpr c37
              have c37b1 : (a0_8 != 2) = false := bne_eq_false_iff_eq.mpr c37
              clear c37
              obtain rfl := Option.some.inj H
              go_enter Try.func11, Try.ntmps11
              go_wp2_with (first | ((with_reducible refine gate_dst (N := 1) rfl ?_); refine box_event ?hg (N := 1) ?hd (cs := #[.int .i64 a0_0, .int .i64 a0_1, .int .u32 a0_2, .int .u32 a0_3, .int .u32 a0_4, .int .u32 a0_5, .int .u32 a0_6, .int .u32 a0_7, .int .i64 a0_8]) (t := 25) ?hr ?_; (case hd => rfl); (case hg => rfl); (case hr => first | (go_simp; done) | (go_simp; rfl)); intro gb181 hg w38 hbox hb; have n0_ := Aside0.mk (below_step (by repeat (first | (with_reducible first | exact HB.out | apply below_alloc | apply pw_below_drewN | apply below_drew1) | exact HB.out)) hb); have n1_ := Aside0.mk (hbox); have n2_ := Aside0.mk ((by rw [hg]; exact (below_size (by repeat (first | (with_reducible first | exact HB.out | apply below_alloc | apply pw_below_drewN | apply below_drew1) | exact HB.out))) : w.heap.size ≤ gb181)); have n3_ := Aside0.mk ((by rw [hg]; exact (below_size (by repeat (first | (with_reducible first | exact HB.out | apply below_alloc | apply pw_below_drewN | apply below_drew1) | exact HB.out))) : w.heap.size ≤ gb181)); clear HB; have HB := n0_; have BK181 := n1_; have GW181 := n2_; have GE181 := n3_; clear n0_ n1_ n2_ n3_; clear hb hbox hg; have hcz39_0 : w38.cell? ⟨gb181, 0, none⟩ = some (.int .i64 a0_0) := (blk_cell BK181.out 0).trans rfl; have hcz39_1 : w38.cell? ⟨gb181, 1, none⟩ = some (.int .i64 a0_1) := (blk_cell BK181.out 1).trans rfl; have hcz39_2 : w38.cell? ⟨gb181, 2, none⟩ = some (.int .u32 a0_2) := (blk_cell BK181.out 2).trans rfl; have hcz39_3 : w38.cell? ⟨gb181, 3, none⟩ = some (.int .u32 a0_3) := (blk_cell BK181.out 3).trans rfl; have hcz39_4 : w38.cell? ⟨gb181, 4, none⟩ = some (.int .u32 a0_4) := (blk_cell BK181.out 4).trans rfl; have hcz39_5 : w38.cell? ⟨gb181, 5, none⟩ = some (.int .u32 a0_5) := (blk_cell BK181.out 5).trans rfl; have hcz39_6 : w38.cell? ⟨gb181, 6, none⟩ = some (.int .u32 a0_6) := (blk_cell BK181.out 6).trans rfl; have hcz39_7 : w38.cell? ⟨gb181, 7, none⟩ = some (.int .u32 a0_7) := (blk_cell BK181.out 7).trans rfl; have hcz39_8 : w38.cell? ⟨gb181, 8, none⟩ = some (.int .i64 a0_8) := (blk_cell BK181.out 8).trans rfl; have hfz39_0 := blk_frozen BK181.out 0; have hfz39_1 := blk_frozen BK181.out 1; have hfz39_2 := blk_frozen BK181.out 2; have hfz39_3 := blk_frozen BK181.out 3; have hfz39_4 := blk_frozen BK181.out 4; have hfz39_5 := blk_frozen BK181.out 5; have hfz39_6 := blk_frozen BK181.out 6; have hfz39_7 := blk_frozen BK181.out 7; have hfz39_8 := blk_frozen BK181.out 8))
              go_ret
              exact ⟨by first | rfl | (simp [errW_none, errW_some] <;> rfl) | (simp [*, errW_none, errW_some] <;> rfl), by repeat (first | (with_reducible first | exact HB.out | apply below_alloc | apply pw_below_drewN | apply below_drew1 | refine below_set ?_ GE181.out) | exact HB.out)⟩
            · rw [if_neg c37] at H
              have c37b0 : (a0_8 == 2) = false := beq_eq_false_iff_ne.mpr c37
              have c37b1 : (a0_8 != 2) = true := bne_iff_ne.mpr c37
              obtain rfl := Option.some.inj H
              go_enter Try.func11, Try.ntmps11
              go_wp2_with (first | ((with_reducible refine gate_dst (N := 1) rfl ?_); refine box_event ?hg (N := 1) ?hd (cs := #[.int .i64 a0_0, .int .i64 a0_1, .int .u32 a0_2, .int .u32 a0_3, .int .u32 a0_4, .int .u32 a0_5, .int .u32 a0_6, .int .u32 a0_7, .int .i64 a0_8]) (t := 25) ?hr ?_; (case hd => rfl); (case hg => rfl); (case hr => first | (go_simp; done) | (go_simp; rfl)); intro gb181 hg w40 hbox hb; have n0_ := Aside0.mk (below_step (by repeat (first | (with_reducible first | exact HB.out | apply below_alloc | apply pw_below_drewN | apply below_drew1) | exact HB.out)) hb); have n1_ := Aside0.mk (hbox); have n2_ := Aside0.mk ((by rw [hg]; exact (below_size (by repeat (first | (with_reducible first | exact HB.out | apply below_alloc | apply pw_below_drewN | apply below_drew1) | exact HB.out))) : w.heap.size ≤ gb181)); have n3_ := Aside0.mk ((by rw [hg]; exact (below_size (by repeat (first | (with_reducible first | exact HB.out | apply below_alloc | apply pw_below_drewN | apply below_drew1) | exact HB.out))) : w.heap.size ≤ gb181)); clear HB; have HB := n0_; have BK181 := n1_; have GW181 := n2_; have GE181 := n3_; clear n0_ n1_ n2_ n3_; clear hb hbox hg; have hcz41_0 : w40.cell? ⟨gb181, 0, none⟩ = some (.int .i64 a0_0) := (blk_cell BK181.out 0).trans rfl; have hcz41_1 : w40.cell? ⟨gb181, 1, none⟩ = some (.int .i64 a0_1) := (blk_cell BK181.out 1).trans rfl; have hcz41_2 : w40.cell? ⟨gb181, 2, none⟩ = some (.int .u32 a0_2) := (blk_cell BK181.out 2).trans rfl; have hcz41_3 : w40.cell? ⟨gb181, 3, none⟩ = some (.int .u32 a0_3) := (blk_cell BK181.out 3).trans rfl; have hcz41_4 : w40.cell? ⟨gb181, 4, none⟩ = some (.int .u32 a0_4) := (blk_cell BK181.out 4).trans rfl; have hcz41_5 : w40.cell? ⟨gb181, 5, none⟩ = some (.int .u32 a0_5) := (blk_cell BK181.out 5).trans rfl; have hcz41_6 : w40.cell? ⟨gb181, 6, none⟩ = some (.int .u32 a0_6) := (blk_cell BK181.out 6).trans rfl; have hcz41_7 : w40.cell? ⟨gb181, 7, none⟩ = some (.int .u32 a0_7) := (blk_cell BK181.out 7).trans rfl; have hcz41_8 : w40.cell? ⟨gb181, 8, none⟩ = some (.int .i64 a0_8) := (blk_cell BK181.out 8).trans rfl; have hfz41_0 := blk_frozen BK181.out 0; have hfz41_1 := blk_frozen BK181.out 1; have hfz41_2 := blk_frozen BK181.out 2; have hfz41_3 := blk_frozen BK181.out 3; have hfz41_4 := blk_frozen BK181.out 4; have hfz41_5 := blk_frozen BK181.out 5; have hfz41_6 := blk_frozen BK181.out 6; have hfz41_7 := blk_frozen BK181.out 7; have hfz41_8 := blk_frozen BK181.out 8))
              go_ret
              exact ⟨by first | rfl | (simp [errW_none, errW_some] <;> rfl) | (simp [*, errW_none, errW_some] <;> rfl), by repeat (first | (with_reducible first | exact HB.out | apply below_alloc | apply pw_below_drewN | apply below_drew1 | refine below_set ?_ GE181.out) | exact HB.out)⟩
        · rw [if_neg c33] at H
          have c33b0 : (a0_1 == 2) = false := beq_eq_false_iff_ne.mpr c33
          have c33b1 : (a0_1 != 2) = true := bne_iff_ne.mpr c33
          obtain rfl := Option.some.inj H
          go_enter Try.func11, Try.ntmps11
          go_wp2_with (first | ((with_reducible refine gate_dst (N := 1) rfl ?_); refine box_event ?hg (N := 1) ?hd (cs := #[.int .i64 a0_0, .int .i64 a0_1, .int .u32 a0_2, .int .u32 a0_3, .int .u32 a0_4, .int .u32 a0_5, .int .u32 a0_6, .int .u32 a0_7, .int .i64 a0_8]) (t := 25) ?hr ?_; (case hd => rfl); (case hg => rfl); (case hr => first | (go_simp; done) | (go_simp; rfl)); intro gb181 hg w42 hbox hb; have n0_ := Aside0.mk (below_step (by repeat (first | (with_reducible first | exact HB.out | apply below_alloc | apply pw_below_drewN | apply below_drew1) | exact HB.out)) hb); have n1_ := Aside0.mk (hbox); have n2_ := Aside0.mk ((by rw [hg]; exact (below_size (by repeat (first | (with_reducible first | exact HB.out | apply below_alloc | apply pw_below_drewN | apply below_drew1) | exact HB.out))) : w.heap.size ≤ gb181)); have n3_ := Aside0.mk ((by rw [hg]; exact (below_size (by repeat (first | (with_reducible first | exact HB.out | apply below_alloc | apply pw_below_drewN | apply below_drew1) | exact HB.out))) : w.heap.size ≤ gb181)); clear HB; have HB := n0_; have BK181 := n1_; have GW181 := n2_; have GE181 := n3_; clear n0_ n1_ n2_ n3_; clear hb hbox hg; have hcz43_0 : w42.cell? ⟨gb181, 0, none⟩ = some (.int .i64 a0_0) := (blk_cell BK181.out 0).trans rfl; have hcz43_1 : w42.cell? ⟨gb181, 1, none⟩ = some (.int .i64 a0_1) := (blk_cell BK181.out 1).trans rfl; have hcz43_2 : w42.cell? ⟨gb181, 2, none⟩ = some (.int .u32 a0_2) := (blk_cell BK181.out 2).trans rfl; have hcz43_3 : w42.cell? ⟨gb181, 3, none⟩ = some (.int .u32 a0_3) := (blk_cell BK181.out 3).trans rfl; have hcz43_4 : w42.cell? ⟨gb181, 4, none⟩ = some (.int .u32 a0_4) := (blk_cell BK181.out 4).trans rfl; have hcz43_5 : w42.cell? ⟨gb181, 5, none⟩ = some (.int .u32 a0_5) := (blk_cell BK181.out 5).trans rfl; have hcz43_6 : w42.cell? ⟨gb181, 6, none⟩ = some (.int .u32 a0_6) := (blk_cell BK181.out 6).trans rfl; have hcz43_7 : w42.cell? ⟨gb181, 7, none⟩ = some (.int .u32 a0_7) := (blk_cell BK181.out 7).trans rfl; have hcz43_8 : w42.cell? ⟨gb181, 8, none⟩ = some (.int .i64 a0_8) := (blk_cell BK181.out 8).trans rfl; have hfz43_0 := blk_frozen BK181.out 0; have hfz43_1 := blk_frozen BK181.out 1; have hfz43_2 := blk_frozen BK181.out 2; have hfz43_3 := blk_frozen BK181.out 3; have hfz43_4 := blk_frozen BK181.out 4; have hfz43_5 := blk_frozen BK181.out 5; have hfz43_6 := blk_frozen BK181.out 6; have hfz43_7 := blk_frozen BK181.out 7; have hfz43_8 := blk_frozen BK181.out 8))
          go_ret
          exact ⟨by first | rfl | (simp [errW_none, errW_some] <;> rfl) | (simp [*, errW_none, errW_some] <;> rfl), by repeat (first | (with_reducible first | exact HB.out | apply below_alloc | apply pw_below_drewN | apply below_drew1 | refine below_set ?_ GE181.out) | exact HB.out)⟩
    · rw [if_neg c23] at H
      have c23b0 : (a0_0 == 2) = false := beq_eq_false_iff_ne.mpr c23
      have c23b1 : (a0_0 != 2) = true := bne_iff_ne.mpr c23
      obtain rfl := Option.some.inj H
      go_enter Try.func11, Try.ntmps11
      go_wp2_with (first | ((with_reducible refine gate_dst (N := 1) rfl ?_); refine box_event ?hg (N := 1) ?hd (cs := #[.int .i64 a0_0, .int .i64 a0_1, .int .u32 a0_2, .int .u32 a0_3, .int .u32 a0_4, .int .u32 a0_5, .int .u32 a0_6, .int .u32 a0_7, .int .i64 a0_8]) (t := 25) ?hr ?_; (case hd => rfl); (case hg => rfl); (case hr => first | (go_simp; done) | (go_simp; rfl)); intro gb181 hg w44 hbox hb; have n0_ := Aside0.mk (below_step (by repeat (first | (with_reducible first | exact HB.out | apply below_alloc | apply pw_below_drewN | apply below_drew1) | exact HB.out)) hb); have n1_ := Aside0.mk (hbox); have n2_ := Aside0.mk ((by rw [hg]; exact (below_size (by repeat (first | (with_reducible first | exact HB.out | apply below_alloc | apply pw_below_drewN | apply below_drew1) | exact HB.out))) : w.heap.size ≤ gb181)); have n3_ := Aside0.mk ((by rw [hg]; exact (below_size (by repeat (first | (with_reducible first | exact HB.out | apply below_alloc | apply pw_below_drewN | apply below_drew1) | exact HB.out))) : w.heap.size ≤ gb181)); clear HB; have HB := n0_; have BK181 := n1_; have GW181 := n2_; have GE181 := n3_; clear n0_ n1_ n2_ n3_; clear hb hbox hg; have hcz45_0 : w44.cell? ⟨gb181, 0, none⟩ = some (.int .i64 a0_0) := (blk_cell BK181.out 0).trans rfl; have hcz45_1 : w44.cell? ⟨gb181, 1, none⟩ = some (.int .i64 a0_1) := (blk_cell BK181.out 1).trans rfl; have hcz45_2 : w44.cell? ⟨gb181, 2, none⟩ = some (.int .u32 a0_2) := (blk_cell BK181.out 2).trans rfl; have hcz45_3 : w44.cell? ⟨gb181, 3, none⟩ = some (.int .u32 a0_3) := (blk_cell BK181.out 3).trans rfl; have hcz45_4 : w44.cell? ⟨gb181, 4, none⟩ = some (.int .u32 a0_4) := (blk_cell BK181.out 4).trans rfl; have hcz45_5 : w44.cell? ⟨gb181, 5, none⟩ = some (.int .u32 a0_5) := (blk_cell BK181.out 5).trans rfl; have hcz45_6 : w44.cell? ⟨gb181, 6, none⟩ = some (.int .u32 a0_6) := (blk_cell BK181.out 6).trans rfl; have hcz45_7 : w44.cell? ⟨gb181, 7, none⟩ = some (.int .u32 a0_7) := (blk_cell BK181.out 7).trans rfl; have hcz45_8 : w44.cell? ⟨gb181, 8, none⟩ = some (.int .i64 a0_8) := (blk_cell BK181.out 8).trans rfl; have hfz45_0 := blk_frozen BK181.out 0; have hfz45_1 := blk_frozen BK181.out 1; have hfz45_2 := blk_frozen BK181.out 2; have hfz45_3 := blk_frozen BK181.out 3; have hfz45_4 := blk_frozen BK181.out 4; have hfz45_5 := blk_frozen BK181.out 5; have hfz45_6 := blk_frozen BK181.out 6; have hfz45_7 := blk_frozen BK181.out 7; have hfz45_8 := blk_frozen BK181.out 8))
      go_ret
      exact ⟨by first | rfl | (simp [errW_none, errW_some] <;> rfl) | (simp [*, errW_none, errW_some] <;> rfl), by repeat (first | (with_reducible first | exact HB.out | apply below_alloc | apply pw_below_drewN | apply below_drew1 | refine below_set ?_ GE181.out) | exact HB.out)⟩

/-! ### chamberlainref09_Right: function 9 -/
def chamberlainref09_Right.l0 : Nat → List (S25) → Int → Int → Option (Bool)
  | 0, _, _, _ => none
  | k + 1, x0, x1, x5 => if x5 < (x0.length : Int) then (if 0 ≤ x5 then ((chamberlainref09_May.f ((rd_T25 x0 x5).f0) ((rd_T25 x0 x5).f1) ((rd_T25 x0 x5).f2) ((rd_T25 x0 x5).f3) ((rd_T25 x0 x5).f4) ((rd_T25 x0 x5).f5) ((rd_T25 x0 x5).f6) ((rd_T25 x0 x5).f7) ((rd_T25 x0 x5).f8)).bind fun t183 => (if t183 = true then (chamberlainref09_Right.l0 k x0 x1 (wrap64 (x5 + 1))) else (some false))) else (none)) else (some (decide ((x0.length : Int) ≤ x1)))
def chamberlainref09_Right.f (k : Nat) (l0 : List (S25)) (a1 : Int) : Option (Bool) := chamberlainref09_Right.l0 k l0 a1 0
theorem chamberlainref09_Right.mono_l : ∀ k, (∀ y0 y1 y2, LeO (chamberlainref09_Right.l0 k y0 y1 y2) (chamberlainref09_Right.l0 (k + 1) y0 y1 y2))
  | 0 => fun _ _ _ r h => by simp [chamberlainref09_Right.l0] at h
  | k + 1 => by
    have ih0 := chamberlainref09_Right.mono_l k
    · intro y0 y1 y2
      unfold chamberlainref09_Right.l0
      repeat' first
      | (with_reducible exact ih0 _ _ _)
      | (with_reducible exact LeO.refl _)
      | (with_reducible exact LeO.none _)
      | (with_reducible refine LeO.ite ?_ ?_)
      | (with_reducible refine LeO.bind ?_ (fun _ => ?_))
      | exact ih0 _ _ _
      | exact LeO.none _
      | refine LeO.ite ?_ ?_
      | refine LeO.bind ?_ (fun _ => ?_)
theorem chamberlainref09_Right.mono : ∀ a0 a1 k, LeO (chamberlainref09_Right.f k a0 a1) (chamberlainref09_Right.f (k + 1) a0 a1) := by
  intro a0 a1 k
  have ih0 := chamberlainref09_Right.mono_l k
  unfold chamberlainref09_Right.f
  repeat' first
      | (with_reducible exact ih0 _ _ _)
      | (with_reducible exact LeO.refl _)
      | (with_reducible exact LeO.none _)
      | (with_reducible refine LeO.ite ?_ ?_)
      | (with_reducible refine LeO.bind ?_ (fun _ => ?_))
      | exact ih0 _ _ _
      | exact LeO.none _
      | refine LeO.ite ?_ ?_
      | refine LeO.bind ?_ (fun _ => ?_)
set_option maxHeartbeats 8000000 in
set_option maxRecDepth 100000 in
theorem chamberlainref09_Right.calls (k : Nat) (A0 : Option Addr) (c0 : Nat) (l0 : List (S25)) (a1 : Int) (r : Bool) (w : World) (hr0 : Kd.C k25 w A0 l0.length l0) (hc0 : l0.length ≤ c0) (h : chamberlainref09_Right.f k l0 a1 = some r) :
    Calls Try.prog 9 #[.slice A0 l0.length c0, .int .i64 a1] w fun e w' => e = .returned (.bool r) ∧ Below w.heap.size w w' := by
  have hu25 := Try.underlying25
  have HR0 := Aside0.mk hr0
  have HC0 := Aside0.mk hc0
  clear hr0 hc0
  have HB := Aside0.mk (Below.refl w.heap.size w)
  have H : (chamberlainref09_Right.l0 k l0 a1 0) = some r := h
  clear h
  have H' := Aside0.mk H
  clear H
  go_enter Try.func9, Try.ntmps9
  go_wp2
  go_loopg [5] k (fun kq v5 w' => ∃ (x5_1 : Int), v5 = .int .i64 x5_1 ∧ Aside0 (chamberlainref09_Right.l0 kq l0 a1 x5_1 = some r) ∧ Aside0 (kq ≤ k) ∧ Aside0 (Below w.heap.size w w'))
  case atStart => exact ⟨(0), (by first | rfl | (simp; done) | (simp [*]; done)), H', ⟨Nat.le_refl _⟩, ⟨by repeat (first | (with_reducible first | exact HB.out | apply below_alloc | apply pw_below_drewN | apply below_drew1) | exact HB.out)⟩⟩
  case round =>
    clear H'
    try clear p2
    obtain ⟨x5_1, rfl, HA, HK1, HB⟩ := hrel
    cases gk with
    | zero => exact absurd HA.out (by simp [chamberlainref09_Right.l0])
    | succ k1 =>
      have H := HA.out
      clear HA
      simp only [chamberlainref09_Right.l0] at H
      by_cases c3 : x5_1 < (l0.length : Int)
      · rw [if_pos c3] at H
        have c3b0 : decide (x5_1 < (l0.length : Int)) = true := decide_eq_true c3
        clear c3
        by_cases c4 : 0 ≤ x5_1
        · rw [if_pos c4] at H
          have c4b0 : decide (0 ≤ x5_1) = true := decide_eq_true c4
          clear c4
          replace H := Option.bind_eq_some_iff.mp H
          obtain ⟨t183, A50, H⟩ := H
          replace H : (if t183 = true then (chamberlainref09_Right.l0 k1 l0 a1 (wrap64 (x5_1 + 1))) else (some false)) = some r := H
          have A5 := Aside0.mk A50
          clear A50
          by_cases c6 : t183 = true
          · subst c6
            have H1 : (chamberlainref09_Right.l0 k1 l0 a1 (wrap64 (x5_1 + 1))) = some r := by rw [if_pos rfl] at H; exact H
            clear H
            have H := H1
            clear H1
            have H' := Aside0.mk H
            clear H
            have p182 : 0 ≤ (x5_1 : Int) := of_decide_eq_true (by first | (with_reducible assumption) | assumption)
            have q182 : x5_1 < (l0.length : Int) := of_decide_eq_true (by first | (with_reducible assumption) | assumption)
            obtain ⟨ad182, e182, hx182_0, hx182_1, hx182_2, hx182_3, hx182_4, hx182_5, hx182_6, hx182_7, hx182_8⟩ := at_T25 HR0.out x5_1 p182 q182
            cases e182
            replace hx182_0 := (HB.out.cell (World.block_lt_of_cell? w _ hx182_0)).trans hx182_0
            replace hx182_1 := (HB.out.cell (World.block_lt_of_cell? w _ hx182_1)).trans hx182_1
            replace hx182_2 := (HB.out.cell (World.block_lt_of_cell? w _ hx182_2)).trans hx182_2
            replace hx182_3 := (HB.out.cell (World.block_lt_of_cell? w _ hx182_3)).trans hx182_3
            replace hx182_4 := (HB.out.cell (World.block_lt_of_cell? w _ hx182_4)).trans hx182_4
            replace hx182_5 := (HB.out.cell (World.block_lt_of_cell? w _ hx182_5)).trans hx182_5
            replace hx182_6 := (HB.out.cell (World.block_lt_of_cell? w _ hx182_6)).trans hx182_6
            replace hx182_7 := (HB.out.cell (World.block_lt_of_cell? w _ hx182_7)).trans hx182_7
            replace hx182_8 := (HB.out.cell (World.block_lt_of_cell? w _ hx182_8)).trans hx182_8
            replace p182 := eq_true p182
            replace q182 := eq_true q182
            go_wp2_with (first | ((with_reducible refine gate_callee (f := 11) rfl ?_); refine goesL_ (some 16) rfl rfl Try.func11 (by kernel_rfl) rfl #[.agg #[.int .i64 ((rd_T25 l0 x5_1).f0), .int .i64 ((rd_T25 l0 x5_1).f1), .int .u32 ((rd_T25 l0 x5_1).f2), .int .u32 ((rd_T25 l0 x5_1).f3), .int .u32 ((rd_T25 l0 x5_1).f4), .int .u32 ((rd_T25 l0 x5_1).f5), .int .u32 ((rd_T25 l0 x5_1).f6), .int .u32 ((rd_T25 l0 x5_1).f7), .int .i64 ((rd_T25 l0 x5_1).f8)]] rfl (by (try simp only [List.map_toArray, List.map_cons, List.map_nil]); first | done | rfl | (simp only [List.length_drop, List.length_take]; rfl)) ?_; (with_reducible refine (chamberlainref09_May.calls ((rd_T25 l0 x5_1).f0) ((rd_T25 l0 x5_1).f1) ((rd_T25 l0 x5_1).f2) ((rd_T25 l0 x5_1).f3) ((rd_T25 l0 x5_1).f4) ((rd_T25 l0 x5_1).f5) ((rd_T25 l0 x5_1).f6) ((rd_T25 l0 x5_1).f7) ((rd_T25 l0 x5_1).f8) true _ A5.out).mono ?_); rintro e w7 ⟨rfl, hb⟩; refine ⟨_, rfl, ?_⟩; have n0_ := Aside0.mk (below_step (by repeat (first | (with_reducible first | exact HB.out | apply below_alloc | apply pw_below_drewN | apply below_drew1) | exact HB.out)) hb); clear HB; have HB := n0_; clear n0_; (try clear hb); (try clear hb2); (try clear hk); (try clear hi)))
            go_roundg k1
            case measure => have := HK1.out; omega
            case rel => exact ⟨(wrap64 (x5_1 + 1)), (by first | rfl | (simp; done) | (simp [*]; done)), H', ⟨by have := HK1.out; omega⟩, ⟨by repeat (first | (with_reducible first | exact HB.out | apply below_alloc | apply pw_below_drewN | apply below_drew1) | exact HB.out)⟩⟩
          · replace c6 := Bool.eq_false_iff.mpr c6
            subst c6
            have H1 : (some false) = some r := by rw [if_neg (show ¬ (false = true) by decide)] at H; exact H
            clear H
            have H := H1
            clear H1
            obtain rfl := Option.some.inj H
            have p182 : 0 ≤ (x5_1 : Int) := of_decide_eq_true (by first | (with_reducible assumption) | assumption)
            have q182 : x5_1 < (l0.length : Int) := of_decide_eq_true (by first | (with_reducible assumption) | assumption)
            obtain ⟨ad182, e182, hx182_0, hx182_1, hx182_2, hx182_3, hx182_4, hx182_5, hx182_6, hx182_7, hx182_8⟩ := at_T25 HR0.out x5_1 p182 q182
            cases e182
            replace hx182_0 := (HB.out.cell (World.block_lt_of_cell? w _ hx182_0)).trans hx182_0
            replace hx182_1 := (HB.out.cell (World.block_lt_of_cell? w _ hx182_1)).trans hx182_1
            replace hx182_2 := (HB.out.cell (World.block_lt_of_cell? w _ hx182_2)).trans hx182_2
            replace hx182_3 := (HB.out.cell (World.block_lt_of_cell? w _ hx182_3)).trans hx182_3
            replace hx182_4 := (HB.out.cell (World.block_lt_of_cell? w _ hx182_4)).trans hx182_4
            replace hx182_5 := (HB.out.cell (World.block_lt_of_cell? w _ hx182_5)).trans hx182_5
            replace hx182_6 := (HB.out.cell (World.block_lt_of_cell? w _ hx182_6)).trans hx182_6
            replace hx182_7 := (HB.out.cell (World.block_lt_of_cell? w _ hx182_7)).trans hx182_7
            replace hx182_8 := (HB.out.cell (World.block_lt_of_cell? w _ hx182_8)).trans hx182_8
            replace p182 := eq_true p182
            replace q182 := eq_true q182
            go_wp2_with (first | ((with_reducible refine gate_callee (f := 11) rfl ?_); refine goesL_ (some 16) rfl rfl Try.func11 (by kernel_rfl) rfl #[.agg #[.int .i64 ((rd_T25 l0 x5_1).f0), .int .i64 ((rd_T25 l0 x5_1).f1), .int .u32 ((rd_T25 l0 x5_1).f2), .int .u32 ((rd_T25 l0 x5_1).f3), .int .u32 ((rd_T25 l0 x5_1).f4), .int .u32 ((rd_T25 l0 x5_1).f5), .int .u32 ((rd_T25 l0 x5_1).f6), .int .u32 ((rd_T25 l0 x5_1).f7), .int .i64 ((rd_T25 l0 x5_1).f8)]] rfl (by (try simp only [List.map_toArray, List.map_cons, List.map_nil]); first | done | rfl | (simp only [List.length_drop, List.length_take]; rfl)) ?_; (with_reducible refine (chamberlainref09_May.calls ((rd_T25 l0 x5_1).f0) ((rd_T25 l0 x5_1).f1) ((rd_T25 l0 x5_1).f2) ((rd_T25 l0 x5_1).f3) ((rd_T25 l0 x5_1).f4) ((rd_T25 l0 x5_1).f5) ((rd_T25 l0 x5_1).f6) ((rd_T25 l0 x5_1).f7) ((rd_T25 l0 x5_1).f8) false _ A5.out).mono ?_); rintro e w8 ⟨rfl, hb⟩; refine ⟨_, rfl, ?_⟩; have n0_ := Aside0.mk (below_step (by repeat (first | (with_reducible first | exact HB.out | apply below_alloc | apply pw_below_drewN | apply below_drew1) | exact HB.out)) hb); clear HB; have HB := n0_; clear n0_; (try clear hb); (try clear hb2); (try clear hk); (try clear hi)))
            go_ret
            exact ⟨by first | rfl | (simp [errW_none, errW_some] <;> rfl) | (simp [*, errW_none, errW_some] <;> rfl), by repeat (first | (with_reducible first | exact HB.out | apply below_alloc | apply pw_below_drewN | apply below_drew1) | exact HB.out)⟩
        · rw [if_neg c4] at H
          exact absurd H (by simp)
      · rw [if_neg c3] at H
        have c3b0 : decide (x5_1 < (l0.length : Int)) = false := decide_eq_false c3
        clear c3
        obtain rfl := Option.some.inj H
        go_wp2
        go_ret
        exact ⟨by first | rfl | (simp [errW_none, errW_some] <;> rfl) | (simp [*, errW_none, errW_some] <;> rfl), by repeat (first | (with_reducible first | exact HB.out | apply below_alloc | apply pw_below_drewN | apply below_drew1) | exact HB.out)⟩

/-! ### chamberlainref09_Add: function 13 -/
def chamberlainref09_Add.f (l0 : List (S25)) (a1 : Int) (a2_0 : Int) (a2_1 : Int) (a2_2 : Int) (a2_3 : Int) (a2_4 : Int) (a2_5 : Int) (a2_6 : Int) (a2_7 : Int) (a2_8 : Int) : Option ((List (S25)) × Int) := (chamberlainref09_May.f a2_0 a2_1 a2_2 a2_3 a2_4 a2_5 a2_6 a2_7 a2_8).bind fun t185 => (if t185 = true then (if (l0.length : Int) ≥ a1 then (some (l0, 10)) else ((some (([] : List (S25)) : List (S25))).bind fun y186 => (if y186.length + l0.length < 2932031007402 then ((some (y186 ++ l0 : List (S25))).bind fun y189 => ((some (([(⟨a2_0, a2_1, a2_2, a2_3, a2_4, a2_5, a2_6, a2_7, a2_8⟩ : S25)] : List (S25)) : List (S25))).bind fun y192 => (if y189.length + y192.length < 2932031007402 then (some ((y189 ++ y192), 0)) else (none)))) else (none)))) else (some (l0, 1)))
def chamberlainref09_Add.T5 : Bool × List (List Nat × List Nat) := (true, [([], []), ([], []), ([0, 1], [0, 1]), ([], []), ([3], [3]), ([2, 4, 2], [2, 4]), ([5, 5, 0, 1, 2, 3, 4, 5], [5]), ([6, 0, 1, 2, 3, 4, 5, 6], [])])
def chamberlainref09_Add.B5 : List Nat := [0, 0, 3, 0, 8, 31, 63, 127]
theorem chamberlainref09_Add.tab5 : rtab .any (opsOf Try.f13 5) = chamberlainref09_Add.T5 := by kernel_rfl
theorem chamberlainref09_Add.bits5 : waitsOk chamberlainref09_Add.T5.2 chamberlainref09_Add.B5 = true := by kernel_rfl
set_option maxHeartbeats 8000000 in
set_option maxRecDepth 100000 in
theorem chamberlainref09_Add.calls (P0_ : Nat → Prop) (A0 : Option Addr) (c0 : Nat) (l0 : List (S25)) (a1 : Int) (a2_0 : Int) (a2_1 : Int) (a2_2 : Int) (a2_3 : Int) (a2_4 : Int) (a2_5 : Int) (a2_6 : Int) (a2_7 : Int) (a2_8 : Int) (r1 : List (S25)) (r2 : Int) (w : World) (hs0 : Kd.V k25 25 w w.heap.size (fun k_ => P0_ k_) (.slice A0 l0.length c0) l0) (h : chamberlainref09_Add.f l0 a1 a2_0 a2_1 a2_2 a2_3 a2_4 a2_5 a2_6 a2_7 a2_8 = some (r1, r2)) :
    Calls Try.prog 13 #[.slice A0 l0.length c0, .int .i64 a1, .agg #[.int .i64 a2_0, .int .i64 a2_1, .int .u32 a2_2, .int .u32 a2_3, .int .u32 a2_4, .int .u32 a2_5, .int .u32 a2_6, .int .u32 a2_7, .int .i64 a2_8]] w fun e w' => ∃ v0_ : Value, e = .returned (.tuple #[v0_, .int .i64 r2]) ∧ Kd.V k25 25 w' w.heap.size (fun k_ => (P0_ k_ ∨ w.heap.size ≤ k_)) v0_ r1 ∧ Below w.heap.size w w' := by
  have hu25 := Try.underlying25
  have HO0 := Aside0.mk (show Kd.V k25 25 w w.heap.size (fun k_ => (P0_ k_ ∨ w.heap.size ≤ k_)) (.slice A0 l0.length c0) l0 from Kd.V_mono hs0 (fun k_ hk => .inl hk))
  have HB := Aside0.mk (Below.refl w.heap.size w)
  have H : ((chamberlainref09_May.f a2_0 a2_1 a2_2 a2_3 a2_4 a2_5 a2_6 a2_7 a2_8).bind fun t185 => (if t185 = true then (if (l0.length : Int) ≥ a1 then (some (l0, 10)) else ((some (([] : List (S25)) : List (S25))).bind fun y186 => (if y186.length + l0.length < 2932031007402 then ((some (y186 ++ l0 : List (S25))).bind fun y189 => ((some (([(⟨a2_0, a2_1, a2_2, a2_3, a2_4, a2_5, a2_6, a2_7, a2_8⟩ : S25)] : List (S25)) : List (S25))).bind fun y192 => (if y189.length + y192.length < 2932031007402 then (some ((y189 ++ y192), 0)) else (none)))) else (none)))) else (some (l0, 1)))) = some (r1, r2) := h
  clear h
  replace H := Option.bind_eq_some_iff.mp H
  obtain ⟨t185, A40, H⟩ := H
  replace H : (if t185 = true then (if (l0.length : Int) ≥ a1 then (some (l0, 10)) else ((some (([] : List (S25)) : List (S25))).bind fun y186 => (if y186.length + l0.length < 2932031007402 then ((some (y186 ++ l0 : List (S25))).bind fun y189 => ((some (([(⟨a2_0, a2_1, a2_2, a2_3, a2_4, a2_5, a2_6, a2_7, a2_8⟩ : S25)] : List (S25)) : List (S25))).bind fun y192 => (if y189.length + y192.length < 2932031007402 then (some ((y189 ++ y192), 0)) else (none)))) else (none)))) else (some (l0, 1))) = some (r1, r2) := H
  have A4 := Aside0.mk A40
  clear A40
  by_cases c5 : t185 = true
  · subst c5
    have H1 : (if (l0.length : Int) ≥ a1 then (some (l0, 10)) else ((some (([] : List (S25)) : List (S25))).bind fun y186 => (if y186.length + l0.length < 2932031007402 then ((some (y186 ++ l0 : List (S25))).bind fun y189 => ((some (([(⟨a2_0, a2_1, a2_2, a2_3, a2_4, a2_5, a2_6, a2_7, a2_8⟩ : S25)] : List (S25)) : List (S25))).bind fun y192 => (if y189.length + y192.length < 2932031007402 then (some ((y189 ++ y192), 0)) else (none)))) else (none)))) = some (r1, r2) := by rw [if_pos rfl] at H; exact H
    clear H
    have H := H1
    clear H1
    by_cases c6 : (l0.length : Int) ≥ a1
    · rw [if_pos c6] at H
      have c6b0 : decide (a1 ≤ (l0.length : Int)) = true := decide_eq_true c6
      clear c6
      simp only [Option.some.injEq, Prod.mk.injEq] at H
      obtain ⟨rfl, rfl⟩ := H
      go_enter Try.func13, Try.ntmps13
      go_wp2_with (first | ((with_reducible refine gate_dst (N := 5) rfl ?_); refine box_event ?hg (N := 5) ?hd (cs := #[.int .i64 a2_0, .int .i64 a2_1, .int .u32 a2_2, .int .u32 a2_3, .int .u32 a2_4, .int .u32 a2_5, .int .u32 a2_6, .int .u32 a2_7, .int .i64 a2_8]) (t := 25) ?hr ?_; (case hd => rfl); (case hg => rfl); (case hr => first | (go_simp; done) | (go_simp; rfl)); intro gb184 hg w7 hbox hb; have n0_ := Aside0.mk (Kd.V_below (Kd.V_elderB (by (with_reducible repeat (first | apply Kd.V_alloc | apply Kd.V_drewN | apply Kd.V_drew)); exact HO0.out) gb184 (Nat.le_of_eq hg.symm)) hb); have n1_ := Aside0.mk (below_step (by repeat (first | (with_reducible first | exact HB.out | apply below_alloc | apply pw_below_drewN | apply below_drew1) | exact HB.out)) hb); have n2_ := Aside0.mk (hbox); have n3_ := Aside0.mk ((by rw [hg]; exact (below_size (by repeat (first | (with_reducible first | exact HB.out | apply below_alloc | apply pw_below_drewN | apply below_drew1) | exact HB.out))) : w.heap.size ≤ gb184)); have n4_ := Aside0.mk ((by rw [hg]; exact (below_size (by repeat (first | (with_reducible first | exact HB.out | apply below_alloc | apply pw_below_drewN | apply below_drew1) | exact HB.out))) : w.heap.size ≤ gb184)); clear HO0; clear HB; have HO0 := n0_; have HB := n1_; have BK184 := n2_; have GW184 := n3_; have GE184 := n4_; clear n0_ n1_ n2_ n3_ n4_; clear hb hbox hg; have hcz8_0 : w7.cell? ⟨gb184, 0, none⟩ = some (.int .i64 a2_0) := (blk_cell BK184.out 0).trans rfl; have hcz8_1 : w7.cell? ⟨gb184, 1, none⟩ = some (.int .i64 a2_1) := (blk_cell BK184.out 1).trans rfl; have hcz8_2 : w7.cell? ⟨gb184, 2, none⟩ = some (.int .u32 a2_2) := (blk_cell BK184.out 2).trans rfl; have hcz8_3 : w7.cell? ⟨gb184, 3, none⟩ = some (.int .u32 a2_3) := (blk_cell BK184.out 3).trans rfl; have hcz8_4 : w7.cell? ⟨gb184, 4, none⟩ = some (.int .u32 a2_4) := (blk_cell BK184.out 4).trans rfl; have hcz8_5 : w7.cell? ⟨gb184, 5, none⟩ = some (.int .u32 a2_5) := (blk_cell BK184.out 5).trans rfl; have hcz8_6 : w7.cell? ⟨gb184, 6, none⟩ = some (.int .u32 a2_6) := (blk_cell BK184.out 6).trans rfl; have hcz8_7 : w7.cell? ⟨gb184, 7, none⟩ = some (.int .u32 a2_7) := (blk_cell BK184.out 7).trans rfl; have hcz8_8 : w7.cell? ⟨gb184, 8, none⟩ = some (.int .i64 a2_8) := (blk_cell BK184.out 8).trans rfl; have hfz8_0 := blk_frozen BK184.out 0; have hfz8_1 := blk_frozen BK184.out 1; have hfz8_2 := blk_frozen BK184.out 2; have hfz8_3 := blk_frozen BK184.out 3; have hfz8_4 := blk_frozen BK184.out 4; have hfz8_5 := blk_frozen BK184.out 5; have hfz8_6 := blk_frozen BK184.out 6; have hfz8_7 := blk_frozen BK184.out 7; have hfz8_8 := blk_frozen BK184.out 8) | ((with_reducible refine gate_callee (f := 11) rfl ?_); refine goesL_ (some 9) rfl rfl Try.func11 (by kernel_rfl) rfl #[.agg #[.int .i64 a2_0, .int .i64 a2_1, .int .u32 a2_2, .int .u32 a2_3, .int .u32 a2_4, .int .u32 a2_5, .int .u32 a2_6, .int .u32 a2_7, .int .i64 a2_8]] rfl (by (try simp only [List.map_toArray, List.map_cons, List.map_nil]); first | done | rfl | (simp only [List.length_drop, List.length_take]; rfl)) ?_; (with_reducible refine (chamberlainref09_May.calls a2_0 a2_1 a2_2 a2_3 a2_4 a2_5 a2_6 a2_7 a2_8 true _ A4.out).mono ?_); rintro e w9 ⟨rfl, hb⟩; refine ⟨_, rfl, ?_⟩; have n0_ := Aside0.mk (Kd.V_below (by (with_reducible repeat (first | apply Kd.V_alloc | apply Kd.V_drewN | apply Kd.V_drew)); exact HO0.out) hb); have n1_ := Aside0.mk (blk_below (g := gb184) (o := .cells #[.int .i64 a2_0, .int .i64 a2_1, .int .u32 a2_2, .int .u32 a2_3, .int .u32 a2_4, .int .u32 a2_5, .int .u32 a2_6, .int .u32 a2_7, .int .i64 a2_8] 25 (0, 0)) (by (with_reducible repeat (first | refine blk_drewN ?_ _ | refine blk_drew ?_ | refine blk_alloc ?_ _)); exact BK184.out) hb); have n2_ := Aside0.mk (below_step (by repeat (first | (with_reducible first | exact HB.out | apply below_alloc | apply pw_below_drewN | apply below_drew1 | refine below_set ?_ GE184.out) | exact HB.out)) hb); clear HO0; clear BK184; clear HB; have HO0 := n0_; have BK184 := n1_; have HB := n2_; clear n0_ n1_ n2_; (try clear hb); (try clear hb2); (try clear hk); (try clear hi)))
      go_ret2
      exact ⟨_, by first | rfl | (simp [errW_none, errW_some] <;> rfl) | (simp [*, errW_none, errW_some] <;> rfl), by (with_reducible repeat (first | apply Kd.V_alloc | apply Kd.V_drewN | apply Kd.V_drew)); exact Kd.V_mono HO0.out (fun _ hk => hk.1), by repeat (first | (with_reducible first | exact HB.out | apply below_alloc | apply pw_below_drewN | apply below_drew1 | refine below_set ?_ GE184.out) | exact HB.out)⟩
    · rw [if_neg c6] at H
      have c6b0 : decide (a1 ≤ (l0.length : Int)) = false := decide_eq_false c6
      clear c6
      obtain ⟨y186, hy186⟩ : ∃ y_ : List (S25), y_ = (([] : List (S25))) := ⟨_, rfl⟩
      replace H : (if y186.length + l0.length < 2932031007402 then ((some (y186 ++ l0 : List (S25))).bind fun y189 => ((some (([(⟨a2_0, a2_1, a2_2, a2_3, a2_4, a2_5, a2_6, a2_7, a2_8⟩ : S25)] : List (S25)) : List (S25))).bind fun y192 => (if y189.length + y192.length < 2932031007402 then (some ((y189 ++ y192), 0)) else (none)))) else (none)) = some (r1, r2) := by first | (rw [hy186]; with_reducible exact H) | (have H2_ := (Option.bind_some _ _).symm.trans H; rw [hy186]; with_reducible exact H2_) | (have H2_ := (Option.bind_some _ _).symm.trans H; with_reducible exact H2_) | with_reducible exact H | (rw [hy186]; exact H) | exact H
      have Ny186 := Aside0.mk hy186
      clear hy186
      by_cases c10 : y186.length + l0.length < 2932031007402
      · rw [if_pos c10] at H
        have LMc10 := Aside0.mk c10
        clear c10
        obtain ⟨y189, hy189⟩ : ∃ y_ : List (S25), y_ = (y186 ++ l0) := ⟨_, rfl⟩
        replace H : ((some (([(⟨a2_0, a2_1, a2_2, a2_3, a2_4, a2_5, a2_6, a2_7, a2_8⟩ : S25)] : List (S25)) : List (S25))).bind fun y192 => (if y189.length + y192.length < 2932031007402 then (some ((y189 ++ y192), 0)) else (none))) = some (r1, r2) := by first | (rw [hy189]; with_reducible exact H) | (have H2_ := (Option.bind_some _ _).symm.trans H; rw [hy189]; with_reducible exact H2_) | (have H2_ := (Option.bind_some _ _).symm.trans H; with_reducible exact H2_) | with_reducible exact H | (rw [hy189]; exact H) | exact H
        have Ny189 := Aside0.mk hy189
        clear hy189
        obtain ⟨y192, hy192⟩ : ∃ y_ : List (S25), y_ = (([(⟨a2_0, a2_1, a2_2, a2_3, a2_4, a2_5, a2_6, a2_7, a2_8⟩ : S25)] : List (S25))) := ⟨_, rfl⟩
        replace H : (if y189.length + y192.length < 2932031007402 then (some ((y189 ++ y192), 0)) else (none)) = some (r1, r2) := by first | (rw [hy192]; with_reducible exact H) | (have H2_ := (Option.bind_some _ _).symm.trans H; rw [hy192]; with_reducible exact H2_) | (have H2_ := (Option.bind_some _ _).symm.trans H; with_reducible exact H2_) | with_reducible exact H | (rw [hy192]; exact H) | exact H
        have Ny192 := Aside0.mk hy192
        clear hy192
        by_cases c11 : y189.length + y192.length < 2932031007402
        · rw [if_pos c11] at H
          have LMc11 := Aside0.mk c11
          clear c11
          obtain ⟨y195, hy195⟩ : ∃ y_ : List (S25), y_ = (y189 ++ y192) := ⟨_, rfl⟩
          replace H : (some (y195, 0)) = some (r1, r2) := by first | (rw [hy195]; with_reducible exact H) | (have H2_ := (Option.bind_some _ _).symm.trans H; rw [hy195]; with_reducible exact H2_) | (have H2_ := (Option.bind_some _ _).symm.trans H; with_reducible exact H2_) | with_reducible exact H | (rw [hy195]; exact H) | exact H
          have Ny195 := Aside0.mk hy195
          clear hy195
          simp only [Option.some.injEq, Prod.mk.injEq] at H
          obtain ⟨rfl, rfl⟩ := H
          go_enter Try.func13, Try.ntmps13
          try go_wp2_with (first | ((with_reducible refine gate_dst (N := 5) rfl ?_); refine box_event ?hg (N := 5) ?hd (cs := #[.int .i64 a2_0, .int .i64 a2_1, .int .u32 a2_2, .int .u32 a2_3, .int .u32 a2_4, .int .u32 a2_5, .int .u32 a2_6, .int .u32 a2_7, .int .i64 a2_8]) (t := 25) ?hr ?_; (case hd => rfl); (case hg => rfl); (case hr => first | (go_simp; done) | (go_simp; rfl)); intro gb184 hg w12 hbox hb; have n0_ := Aside0.mk (Kd.V_below (Kd.V_elderB (by (with_reducible repeat (first | apply Kd.V_alloc | apply Kd.V_drewN | apply Kd.V_drew)); exact HO0.out) gb184 (Nat.le_of_eq hg.symm)) hb); have n1_ := Aside0.mk (below_step (by repeat (first | (with_reducible first | exact HB.out | apply below_alloc | apply pw_below_drewN | apply below_drew1) | exact HB.out)) hb); have n2_ := Aside0.mk (hbox); have n3_ := Aside0.mk ((by rw [hg]; exact (below_size (by repeat (first | (with_reducible first | exact HB.out | apply below_alloc | apply pw_below_drewN | apply below_drew1) | exact HB.out))) : w.heap.size ≤ gb184)); have n4_ := Aside0.mk ((by rw [hg]; exact (below_size (by repeat (first | (with_reducible first | exact HB.out | apply below_alloc | apply pw_below_drewN | apply below_drew1) | exact HB.out))) : w.heap.size ≤ gb184)); clear HO0; clear HB; have HO0 := n0_; have HB := n1_; have BK184 := n2_; have GW184 := n3_; have GE184 := n4_; clear n0_ n1_ n2_ n3_ n4_; clear hb hbox hg; have hcz13_0 : w12.cell? ⟨gb184, 0, none⟩ = some (.int .i64 a2_0) := (blk_cell BK184.out 0).trans rfl; have hcz13_1 : w12.cell? ⟨gb184, 1, none⟩ = some (.int .i64 a2_1) := (blk_cell BK184.out 1).trans rfl; have hcz13_2 : w12.cell? ⟨gb184, 2, none⟩ = some (.int .u32 a2_2) := (blk_cell BK184.out 2).trans rfl; have hcz13_3 : w12.cell? ⟨gb184, 3, none⟩ = some (.int .u32 a2_3) := (blk_cell BK184.out 3).trans rfl; have hcz13_4 : w12.cell? ⟨gb184, 4, none⟩ = some (.int .u32 a2_4) := (blk_cell BK184.out 4).trans rfl; have hcz13_5 : w12.cell? ⟨gb184, 5, none⟩ = some (.int .u32 a2_5) := (blk_cell BK184.out 5).trans rfl; have hcz13_6 : w12.cell? ⟨gb184, 6, none⟩ = some (.int .u32 a2_6) := (blk_cell BK184.out 6).trans rfl; have hcz13_7 : w12.cell? ⟨gb184, 7, none⟩ = some (.int .u32 a2_7) := (blk_cell BK184.out 7).trans rfl; have hcz13_8 : w12.cell? ⟨gb184, 8, none⟩ = some (.int .i64 a2_8) := (blk_cell BK184.out 8).trans rfl; have hfz13_0 := blk_frozen BK184.out 0; have hfz13_1 := blk_frozen BK184.out 1; have hfz13_2 := blk_frozen BK184.out 2; have hfz13_3 := blk_frozen BK184.out 3; have hfz13_4 := blk_frozen BK184.out 4; have hfz13_5 := blk_frozen BK184.out 5; have hfz13_6 := blk_frozen BK184.out 6; have hfz13_7 := blk_frozen BK184.out 7; have hfz13_8 := blk_frozen BK184.out 8) | ((with_reducible refine gate_callee (f := 11) rfl ?_); refine goesL_ (some 9) rfl rfl Try.func11 (by kernel_rfl) rfl #[.agg #[.int .i64 a2_0, .int .i64 a2_1, .int .u32 a2_2, .int .u32 a2_3, .int .u32 a2_4, .int .u32 a2_5, .int .u32 a2_6, .int .u32 a2_7, .int .i64 a2_8]] rfl (by (try simp only [List.map_toArray, List.map_cons, List.map_nil]); first | done | rfl | (simp only [List.length_drop, List.length_take]; rfl)) ?_; (with_reducible refine (chamberlainref09_May.calls a2_0 a2_1 a2_2 a2_3 a2_4 a2_5 a2_6 a2_7 a2_8 true _ A4.out).mono ?_); rintro e w14 ⟨rfl, hb⟩; refine ⟨_, rfl, ?_⟩; have n0_ := Aside0.mk (Kd.V_below (by (with_reducible repeat (first | apply Kd.V_alloc | apply Kd.V_drewN | apply Kd.V_drew)); exact HO0.out) hb); have n1_ := Aside0.mk (blk_below (g := gb184) (o := .cells #[.int .i64 a2_0, .int .i64 a2_1, .int .u32 a2_2, .int .u32 a2_3, .int .u32 a2_4, .int .u32 a2_5, .int .u32 a2_6, .int .u32 a2_7, .int .i64 a2_8] 25 (0, 0)) (by (with_reducible repeat (first | refine blk_drewN ?_ _ | refine blk_drew ?_ | refine blk_alloc ?_ _)); exact BK184.out) hb); have n2_ := Aside0.mk (below_step (by repeat (first | (with_reducible first | exact HB.out | apply below_alloc | apply pw_below_drewN | apply below_drew1 | refine below_set ?_ GE184.out) | exact HB.out)) hb); clear HO0; clear BK184; clear HB; have HO0 := n0_; have BK184 := n1_; have HB := n2_; clear n0_ n1_ n2_; (try clear hb); (try clear hb2); (try clear hk); (try clear hi)))
          have n0_ := Aside0.mk (Kd.V_drew HO0.out)
          have n1_ := Aside0.mk (blk_drew BK184.out)
          have n2_ := Aside0.mk (below_drew1 HB.out)
          clear HO0
          clear BK184
          clear HB
          have HO0 := n0_
          have BK184 := n1_
          have HB := n2_
          clear n0_ n1_ n2_
          refine start_ (n := 8) (S := fun w' => w'.cell? ⟨gb184, 0, none⟩ = some (.int .i64 a2_0) ∧ w'.cell? ⟨gb184, 1, none⟩ = some (.int .i64 a2_1) ∧ w'.cell? ⟨gb184, 2, none⟩ = some (.int .u32 a2_2) ∧ w'.cell? ⟨gb184, 3, none⟩ = some (.int .u32 a2_3) ∧ w'.cell? ⟨gb184, 4, none⟩ = some (.int .u32 a2_4) ∧ w'.cell? ⟨gb184, 5, none⟩ = some (.int .u32 a2_5) ∧ w'.cell? ⟨gb184, 6, none⟩ = some (.int .u32 a2_6) ∧ w'.cell? ⟨gb184, 7, none⟩ = some (.int .u32 a2_7) ∧ w'.cell? ⟨gb184, 8, none⟩ = some (.int .i64 a2_8)) (ds := []) #[false, false, false, false, false, false, false, false] (by kernel_rfl) rfl rfl ⟨(blk_cell BK184.out 0).trans rfl, (blk_cell BK184.out 1).trans rfl, (blk_cell BK184.out 2).trans rfl, (blk_cell BK184.out 3).trans rfl, (blk_cell BK184.out 4).trans rfl, (blk_cell BK184.out 5).trans rfl, (blk_cell BK184.out 6).trans rfl, (blk_cell BK184.out 7).trans rfl, (blk_cell BK184.out 8).trans rfl⟩ (fun hHeld => ?_); refine with_tabW chamberlainref09_Add.tab5 chamberlainref09_Add.bits5 (fun HT_ HW_ => ?_)
          generalize w14.drew = w15 at HO0 BK184 HB hHeld ⊢
          refine pure_ (i := 1) (N := some 18) (v := ?_) (a' := ?_) #[false, true, false, false, false, false, false, false] rfl rfl (any_of HT_.out (by kernel_rfl)) (fun _ _ _ h => h) (Or.inl ⟨by rfl, ?_⟩) ?_ ?_
          rotate_left
          · intro w'
            go_simp
            with_reducible rfl
          rotate_left
          · simp only [Act.put, List.setIfInBounds_toArray, List.set_cons_zero, List.set_cons_succ, i64_w, i32_w]
            rfl
          refine take_ (i := 3) (N := some 20) (v := ?_) (a' := ?_) #[false, true, false, true, false, false, false, false] rfl rfl (take_ofW HT_.out HW_.out (by kernel_rfl)) (fun _ _ _ h => h) (Or.inl ⟨by rfl, ?_⟩) hHeld ?_ ?_
          rotate_left
          · rintro w' ⟨s0, s1, s2, s3, s4, s5, s6, s7, s8⟩
            go_simp
            with_reducible rfl
          rotate_left
          · simp only [Act.put, List.setIfInBounds_toArray, List.set_cons_zero, List.set_cons_succ, i64_w, i32_w]
            rfl
          refine join_ (σ := Value × Value × Value) 3 #[true, true, true, true, true, false, false, false] (fun s_ => [(17, s_.1), (19, s_.2.1), (21, s_.2.2)]) (fun s_ w' => (w'.cell? ⟨gb184, 0, none⟩ = some (.int .i64 a2_0) ∧ w'.cell? ⟨gb184, 1, none⟩ = some (.int .i64 a2_1) ∧ w'.cell? ⟨gb184, 2, none⟩ = some (.int .u32 a2_2) ∧ w'.cell? ⟨gb184, 3, none⟩ = some (.int .u32 a2_3) ∧ w'.cell? ⟨gb184, 4, none⟩ = some (.int .u32 a2_4) ∧ w'.cell? ⟨gb184, 5, none⟩ = some (.int .u32 a2_5) ∧ w'.cell? ⟨gb184, 6, none⟩ = some (.int .u32 a2_6) ∧ w'.cell? ⟨gb184, 7, none⟩ = some (.int .u32 a2_7) ∧ w'.cell? ⟨gb184, 8, none⟩ = some (.int .i64 a2_8)) ∧ (Kd.V k25 25 w' w.heap.size (fun k_ => (P0_ k_ ∨ w.heap.size ≤ k_) ∧ some k_ ≠ (s_.2.1 : Value).ownBlock ∧ some k_ ≠ (s_.2.2 : Value).ownBlock ∧ k_ ≠ gb184) (.slice A0 l0.length c0) l0) ∧ (Kd.R k25 25 w' w.heap.size (fun k_ => (w.heap.size ≤ k_) ∧ some k_ ≠ (s_.2.2 : Value).ownBlock ∧ k_ ≠ gb184) s_.2.1 y189) ∧ (Kd.R k25 25 w' w.heap.size (fun k_ => (w.heap.size ≤ k_) ∧ some k_ ≠ (s_.2.1 : Value).ownBlock ∧ k_ ≠ gb184) s_.2.2 y192) ∧ (w'.heap[gb184]? = some (.cells #[.int .i64 a2_0, .int .i64 a2_1, .int .u32 a2_2, .int .u32 a2_3, .int .u32 a2_4, .int .u32 a2_5, .int .u32 a2_6, .int .u32 a2_7, .int .i64 a2_8] 25 (0, 0))) ∧ (Below w.heap.size w w')) ?_ ?_
          rotate_left
          · intro hCont
            refine two_ (i := 0) (j := 4) (Ni := some 17) (Nj := some 21) #[true, true, false, true, false, false, false, false] #[false, true, false, true, true, false, false, false] rfl rfl rfl rfl (two_of HT_.out (by kernel_rfl)) (by decide) (by decide) (fun K hK => ?_) (fun K hK => ?_)
            · skip
              refine Kd.R_lit_step k25 _ 25 ?hg (N := 17) ?hd (xs := ([] : List (S25))) (inner := []) (ok := fun _ => True) (okp := fun _ => True) ?hr ?hp (fun _ hk => hk) trivial (Below.refl _ _) (Nat.le_refl _) (by simp) ?_; (case hd => rfl); (case hg => rfl); (case hr => first | (go_simp; done) | (go_simp; rfl)); (case hp => exact (Reps.none _ _))
              intro v187 w16 ho17 hb hg_ hnew_
              clear hg_ hnew_
              (first | rw [← Ny186.out] at ho17 | (simp only [Int.reduceToNat] at ho17; rw [← Ny186.out] at ho17))
              have n0_ := Aside0.mk (Kd.V_elder' (by (with_reducible repeat (first | apply Kd.V_alloc | apply Kd.V_drewN | apply Kd.V_drew)); exact HO0.out) (Kd.R_base ho17) hb)
              have n1_ := Aside0.mk (Kd.R_lower (Kd.R_newB (Kd.R_newM (M := fun k_ => (w.heap.size ≤ k_)) ho17 (below_size (by repeat (first | (with_reducible first | exact HB.out | apply below_alloc | apply pw_below_drewN | apply below_drew1 | refine below_set ?_ GE184.out) | exact HB.out))) (fun k_ h_ => h_)) (g := gb184) (o := .cells #[.int .i64 a2_0, .int .i64 a2_1, .int .u32 a2_2, .int .u32 a2_3, .int .u32 a2_4, .int .u32 a2_5, .int .u32 a2_6, .int .u32 a2_7, .int .i64 a2_8] 25 (0, 0)) (by (with_reducible repeat (first | refine blk_drewN ?_ _ | refine blk_drew ?_ | refine blk_alloc ?_ _)); exact BK184.out)) (below_size (by repeat (first | (with_reducible first | exact HB.out | apply below_alloc | apply pw_below_drewN | apply below_drew1 | refine below_set ?_ GE184.out) | exact HB.out))))
              have n2_ := Aside0.mk (blk_below (g := gb184) (o := .cells #[.int .i64 a2_0, .int .i64 a2_1, .int .u32 a2_2, .int .u32 a2_3, .int .u32 a2_4, .int .u32 a2_5, .int .u32 a2_6, .int .u32 a2_7, .int .i64 a2_8] 25 (0, 0)) (by (with_reducible repeat (first | refine blk_drewN ?_ _ | refine blk_drew ?_ | refine blk_alloc ?_ _)); exact BK184.out) hb)
              have n3_ := Aside0.mk (below_step (by repeat (first | (with_reducible first | exact HB.out | apply below_alloc | apply pw_below_drewN | apply below_drew1 | refine below_set ?_ GE184.out) | exact HB.out)) hb)
              clear HO0
              clear BK184
              clear HB
              have HO0 := n0_
              have HO188 := n1_
              have BK184 := n2_
              have HB := n3_
              clear n0_ n1_ n2_ n3_
              clear hb ho17
              refine hK.out _ _ ⟨(blk_cell BK184.out 0).trans rfl, (blk_cell BK184.out 1).trans rfl, (blk_cell BK184.out 2).trans rfl, (blk_cell BK184.out 3).trans rfl, (blk_cell BK184.out 4).trans rfl, (blk_cell BK184.out 5).trans rfl, (blk_cell BK184.out 6).trans rfl, (blk_cell BK184.out 7).trans rfl, (blk_cell BK184.out 8).trans rfl⟩ (fun hHeld => ?_)
              clear hK K
              refine norm_ (a' := ?_) ?_ ?_
              rotate_left
              · show Act.put _ (some 17) _ = _
                simp only [Act.put, List.setIfInBounds_toArray, List.set_cons_zero, List.set_cons_succ, i64_w, i32_w]
                rfl
              refine two_ (i := 2) (j := 4) (Ni := some 19) (Nj := some 21) #[true, true, true, true, false, false, false, false] #[true, true, false, true, true, false, false, false] rfl rfl rfl rfl (two_of HT_.out (by kernel_rfl)) (by decide) (by decide) (fun K hK => ?_) (fun K hK => ?_)
              · skip
                refine Kd.R_append_rows_step k25 (w0 := w) w.heap.size (by rfl) (.tmp 17) (.tmp 18) 22 25 (.agg #[(.int .i64 0), (.int .i64 0), (.int .u32 0), (.int .u32 0), (.int .u32 0), (.int .u32 0), (.int .u32 0), (.int .u32 0), (.int .i64 0)]) 48 rfl Try.underlying22 info25 rfl (by decide) (by omega) v187 y186 l0 _ _ _ (fun k_ => (w.heap.size ≤ k_) ∧ k_ ≠ gb184) (fun _ => False) rfl rfl ?aO ?aR (fun _ _ h => h) (fun _ h => h.elim) ?aF ?aB ?aS ?aL ?_
                (case aR => repeat (first | exact (Kd.V_reads' HO0.out).2.2 | (with_reducible refine Kd.C_alloc ?_ _) | (with_reducible refine Kd.C_drewN ?_ _) | (with_reducible refine Kd.C_drew ?_)))
                (case aB => exact (by repeat (first | (with_reducible first | exact HB.out | apply below_alloc | apply pw_below_drewN | apply below_drew1 | refine below_set ?_ GE184.out) | exact HB.out)))
                (case aF => exact (fun k_ hk => ⟨(Nat.le_trans (below_size (by repeat (first | (with_reducible first | exact HB.out | apply below_alloc | apply pw_below_drewN | apply below_drew1 | refine below_set ?_ GE184.out) | exact HB.out))) hk), Kd.freshB (g := gb184) (o := .cells #[.int .i64 a2_0, .int .i64 a2_1, .int .u32 a2_2, .int .u32 a2_3, .int .u32 a2_4, .int .u32 a2_5, .int .u32 a2_6, .int .u32 a2_7, .int .i64 a2_8] 25 (0, 0)) (by (with_reducible repeat (first | refine blk_drewN ?_ _ | refine blk_drew ?_ | refine blk_alloc ?_ _)); exact BK184.out) k_ hk⟩))
                (case aO => exact (by (with_reducible repeat (first | apply Kd.R_alloc | apply Kd.R_drewN | apply Kd.R_drew)); exact Kd.R_mono HO188.out (fun _ hk => ⟨hk.1.1, hk.2⟩)))
                (case aS => exact (below_size (by repeat (first | (with_reducible first | exact HB.out | apply below_alloc | apply pw_below_drewN | apply below_drew1 | refine below_set ?_ GE184.out) | exact HB.out))))
                (case aL => have := LMc10.out; omega)
                intro v190 w18 ho hb hg hat
                rw [← Ny189.out] at ho
                have n0_ := Aside0.mk (Kd.V_afterv (ok := (fun k_ => (P0_ k_ ∨ w.heap.size ≤ k_) ∧ k_ ≠ gb184)) (by (with_reducible repeat (first | apply Kd.V_alloc | apply Kd.V_drewN | apply Kd.V_drew)); exact HO0.out) hg hat)
                have n1_ := Aside0.mk (blk_grown (g := gb184) (o := .cells #[.int .i64 a2_0, .int .i64 a2_1, .int .u32 a2_2, .int .u32 a2_3, .int .u32 a2_4, .int .u32 a2_5, .int .u32 a2_6, .int .u32 a2_7, .int .i64 a2_8] 25 (0, 0)) (by (with_reducible repeat (first | refine blk_drewN ?_ _ | refine blk_drew ?_ | refine blk_alloc ?_ _)); exact BK184.out) hg (Kd.R_away HO188.out (fun _ hk => hk.2)))
                have n2_ := Aside0.mk (hb)
                have n3_ := Aside0.mk (ho)
                clear HO0
                clear BK184
                clear HB
                clear HO188
                have HO0 := n0_
                have BK184 := n1_
                have HB := n2_
                have HO191 := n3_
                clear n0_ n1_ n2_ n3_
                clear ho hb hg hat
                refine hK.out _ _ ⟨(blk_cell BK184.out 0).trans rfl, (blk_cell BK184.out 1).trans rfl, (blk_cell BK184.out 2).trans rfl, (blk_cell BK184.out 3).trans rfl, (blk_cell BK184.out 4).trans rfl, (blk_cell BK184.out 5).trans rfl, (blk_cell BK184.out 6).trans rfl, (blk_cell BK184.out 7).trans rfl, (blk_cell BK184.out 8).trans rfl⟩ (fun hHeld => ?_)
                clear hK K
                refine norm_ (a' := ?_) ?_ ?_
                rotate_left
                · show Act.put _ (some 19) _ = _
                  simp only [Act.put, List.setIfInBounds_toArray, List.set_cons_zero, List.set_cons_succ, i64_w, i32_w]
                  rfl
                refine one_ (i := 4) (N := some 21) #[true, true, true, true, true, false, false, false] rfl rfl (one_of HT_.out (by kernel_rfl)) (by decide) (fun K hK => ?_)
                refine Kd.R_lit_step k25 _ 25 ?hg (N := 21) ?hd (xs := ([(⟨a2_0, a2_1, a2_2, a2_3, a2_4, a2_5, a2_6, a2_7, a2_8⟩ : S25)] : List (S25))) (inner := [.int .i64 a2_0, .int .i64 a2_1, .int .u32 a2_2, .int .u32 a2_3, .int .u32 a2_4, .int .u32 a2_5, .int .u32 a2_6, .int .u32 a2_7, .int .i64 a2_8]) (ok := fun _ => True) (okp := fun _ => True) ?hr ?hp (fun _ hk => hk) trivial (Below.refl _ _) (Nat.le_refl _) (by simp) ?_; (case hd => rfl); (case hg => rfl); (case hr => first | (go_simp; done) | (go_simp; rfl)); (case hp => exact (Reps.c9 (show Kd.M k25 _ _ _ (⟨a2_0, a2_1, a2_2, a2_3, a2_4, a2_5, a2_6, a2_7, a2_8⟩ : S25) [.int .i64 a2_0, .int .i64 a2_1, .int .u32 a2_2, .int .u32 a2_3, .int .u32 a2_4, .int .u32 a2_5, .int .u32 a2_6, .int .u32 a2_7, .int .i64 a2_8] from (k25_mkM _ _ _ (⟨a2_0, a2_1, a2_2, a2_3, a2_4, a2_5, a2_6, a2_7, a2_8⟩ : S25) )) (Reps.none _ _)))
                intro v193 w19 ho20 hb hg_ hnew_
                clear hg_ hnew_
                (first | rw [← Ny192.out] at ho20 | (simp only [Int.reduceToNat] at ho20; rw [← Ny192.out] at ho20))
                have n0_ := Aside0.mk (Kd.V_elder' (by (with_reducible repeat (first | apply Kd.V_alloc | apply Kd.V_drewN | apply Kd.V_drew)); exact HO0.out) (Kd.R_base ho20) hb)
                have n1_ := Aside0.mk (Kd.R_elder' (by (with_reducible repeat (first | apply Kd.R_alloc | apply Kd.R_drewN | apply Kd.R_drew)); exact HO191.out) (Kd.R_base ho20) hb)
                have n2_ := Aside0.mk (Kd.R_lower (Kd.R_newB (Kd.R_new' (Kd.R_newM (M := fun k_ => (w.heap.size ≤ k_)) ho20 (below_size (by repeat (first | (with_reducible first | exact HB.out | apply below_alloc | apply pw_below_drewN | apply below_drew1 | refine below_set ?_ GE184.out) | exact HB.out))) (fun k_ h_ => h_)) (Kd.R_lt (by (with_reducible repeat (first | apply Kd.R_alloc | apply Kd.R_drewN | apply Kd.R_drew)); exact HO191.out))) (g := gb184) (o := .cells #[.int .i64 a2_0, .int .i64 a2_1, .int .u32 a2_2, .int .u32 a2_3, .int .u32 a2_4, .int .u32 a2_5, .int .u32 a2_6, .int .u32 a2_7, .int .i64 a2_8] 25 (0, 0)) (by (with_reducible repeat (first | refine blk_drewN ?_ _ | refine blk_drew ?_ | refine blk_alloc ?_ _)); exact BK184.out)) (below_size (by repeat (first | (with_reducible first | exact HB.out | apply below_alloc | apply pw_below_drewN | apply below_drew1 | refine below_set ?_ GE184.out) | exact HB.out))))
                have n3_ := Aside0.mk (blk_below (g := gb184) (o := .cells #[.int .i64 a2_0, .int .i64 a2_1, .int .u32 a2_2, .int .u32 a2_3, .int .u32 a2_4, .int .u32 a2_5, .int .u32 a2_6, .int .u32 a2_7, .int .i64 a2_8] 25 (0, 0)) (by (with_reducible repeat (first | refine blk_drewN ?_ _ | refine blk_drew ?_ | refine blk_alloc ?_ _)); exact BK184.out) hb)
                have n4_ := Aside0.mk (below_step (by repeat (first | (with_reducible first | exact HB.out | apply below_alloc | apply pw_below_drewN | apply below_drew1 | refine below_set ?_ GE184.out) | exact HB.out)) hb)
                clear HO0
                clear HO191
                clear BK184
                clear HB
                have HO0 := n0_
                have HO191 := n1_
                have HO194 := n2_
                have BK184 := n3_
                have HB := n4_
                clear n0_ n1_ n2_ n3_ n4_
                clear hb ho20
                refine hK.out _ _ ⟨(blk_cell BK184.out 0).trans rfl, (blk_cell BK184.out 1).trans rfl, (blk_cell BK184.out 2).trans rfl, (blk_cell BK184.out 3).trans rfl, (blk_cell BK184.out 4).trans rfl, (blk_cell BK184.out 5).trans rfl, (blk_cell BK184.out 6).trans rfl, (blk_cell BK184.out 7).trans rfl, (blk_cell BK184.out 8).trans rfl⟩ (fun hHeld => ?_)
                clear hK K
                refine norm_ (a' := ?_) ?_ ?_
                rotate_left
                · show Act.put _ (some 21) _ = _
                  simp only [Act.put, List.setIfInBounds_toArray, List.set_cons_zero, List.set_cons_succ, i64_w, i32_w]
                  rfl
                exact norm_ (by simp only [putAll, Act.put, List.setIfInBounds_toArray, List.set_cons_zero, List.set_cons_succ]) (hCont (v187, v190, v193) _ ⟨hHeld, (by (with_reducible repeat (first | apply Kd.V_alloc | apply Kd.V_drewN | apply Kd.V_drew)); exact Kd.V_mono HO0.out (fun _ hk => ⟨hk.1.1.1, ⟨hk.1.2, ⟨hk.2, hk.1.1.2⟩⟩⟩)), (by (with_reducible repeat (first | apply Kd.R_alloc | apply Kd.R_drewN | apply Kd.R_drew)); exact Kd.R_mono HO191.out (fun _ hk => ⟨hk.1.1, ⟨hk.2, hk.1.2⟩⟩)), (by (with_reducible repeat (first | apply Kd.R_alloc | apply Kd.R_drewN | apply Kd.R_drew)); exact Kd.R_mono HO194.out (fun _ hk => ⟨hk.1.1.1, ⟨hk.1.2, hk.2⟩⟩)), (by (with_reducible repeat (first | refine blk_drewN ?_ _ | refine blk_drew ?_ | refine blk_alloc ?_ _)); exact BK184.out), (by repeat (first | (with_reducible first | exact HB.out | apply below_alloc | apply pw_below_drewN | apply below_drew1 | refine below_set ?_ GE184.out) | exact HB.out))⟩)
              · skip
                refine Kd.R_lit_step k25 _ 25 ?hg (N := 21) ?hd (xs := ([(⟨a2_0, a2_1, a2_2, a2_3, a2_4, a2_5, a2_6, a2_7, a2_8⟩ : S25)] : List (S25))) (inner := [.int .i64 a2_0, .int .i64 a2_1, .int .u32 a2_2, .int .u32 a2_3, .int .u32 a2_4, .int .u32 a2_5, .int .u32 a2_6, .int .u32 a2_7, .int .i64 a2_8]) (ok := fun _ => True) (okp := fun _ => True) ?hr ?hp (fun _ hk => hk) trivial (Below.refl _ _) (Nat.le_refl _) (by simp) ?_; (case hd => rfl); (case hg => rfl); (case hr => first | (go_simp; done) | (go_simp; rfl)); (case hp => exact (Reps.c9 (show Kd.M k25 _ _ _ (⟨a2_0, a2_1, a2_2, a2_3, a2_4, a2_5, a2_6, a2_7, a2_8⟩ : S25) [.int .i64 a2_0, .int .i64 a2_1, .int .u32 a2_2, .int .u32 a2_3, .int .u32 a2_4, .int .u32 a2_5, .int .u32 a2_6, .int .u32 a2_7, .int .i64 a2_8] from (k25_mkM _ _ _ (⟨a2_0, a2_1, a2_2, a2_3, a2_4, a2_5, a2_6, a2_7, a2_8⟩ : S25) )) (Reps.none _ _)))
                intro v193 w18 ho19 hb hg_ hnew_
                clear hg_ hnew_
                (first | rw [← Ny192.out] at ho19 | (simp only [Int.reduceToNat] at ho19; rw [← Ny192.out] at ho19))
                have n0_ := Aside0.mk (Kd.V_elder' (by (with_reducible repeat (first | apply Kd.V_alloc | apply Kd.V_drewN | apply Kd.V_drew)); exact HO0.out) (Kd.R_base ho19) hb)
                have n1_ := Aside0.mk (Kd.R_elder' (by (with_reducible repeat (first | apply Kd.R_alloc | apply Kd.R_drewN | apply Kd.R_drew)); exact HO188.out) (Kd.R_base ho19) hb)
                have n2_ := Aside0.mk (Kd.R_lower (Kd.R_newB (Kd.R_new' (Kd.R_newM (M := fun k_ => (w.heap.size ≤ k_)) ho19 (below_size (by repeat (first | (with_reducible first | exact HB.out | apply below_alloc | apply pw_below_drewN | apply below_drew1 | refine below_set ?_ GE184.out) | exact HB.out))) (fun k_ h_ => h_)) (Kd.R_lt (by (with_reducible repeat (first | apply Kd.R_alloc | apply Kd.R_drewN | apply Kd.R_drew)); exact HO188.out))) (g := gb184) (o := .cells #[.int .i64 a2_0, .int .i64 a2_1, .int .u32 a2_2, .int .u32 a2_3, .int .u32 a2_4, .int .u32 a2_5, .int .u32 a2_6, .int .u32 a2_7, .int .i64 a2_8] 25 (0, 0)) (by (with_reducible repeat (first | refine blk_drewN ?_ _ | refine blk_drew ?_ | refine blk_alloc ?_ _)); exact BK184.out)) (below_size (by repeat (first | (with_reducible first | exact HB.out | apply below_alloc | apply pw_below_drewN | apply below_drew1 | refine below_set ?_ GE184.out) | exact HB.out))))
                have n3_ := Aside0.mk (blk_below (g := gb184) (o := .cells #[.int .i64 a2_0, .int .i64 a2_1, .int .u32 a2_2, .int .u32 a2_3, .int .u32 a2_4, .int .u32 a2_5, .int .u32 a2_6, .int .u32 a2_7, .int .i64 a2_8] 25 (0, 0)) (by (with_reducible repeat (first | refine blk_drewN ?_ _ | refine blk_drew ?_ | refine blk_alloc ?_ _)); exact BK184.out) hb)
                have n4_ := Aside0.mk (below_step (by repeat (first | (with_reducible first | exact HB.out | apply below_alloc | apply pw_below_drewN | apply below_drew1 | refine below_set ?_ GE184.out) | exact HB.out)) hb)
                clear HO0
                clear HO188
                clear BK184
                clear HB
                have HO0 := n0_
                have HO188 := n1_
                have HO194 := n2_
                have BK184 := n3_
                have HB := n4_
                clear n0_ n1_ n2_ n3_ n4_
                clear hb ho19
                refine hK.out _ _ ⟨(blk_cell BK184.out 0).trans rfl, (blk_cell BK184.out 1).trans rfl, (blk_cell BK184.out 2).trans rfl, (blk_cell BK184.out 3).trans rfl, (blk_cell BK184.out 4).trans rfl, (blk_cell BK184.out 5).trans rfl, (blk_cell BK184.out 6).trans rfl, (blk_cell BK184.out 7).trans rfl, (blk_cell BK184.out 8).trans rfl⟩ (fun hHeld => ?_)
                clear hK K
                refine norm_ (a' := ?_) ?_ ?_
                rotate_left
                · show Act.put _ (some 21) _ = _
                  simp only [Act.put, List.setIfInBounds_toArray, List.set_cons_zero, List.set_cons_succ, i64_w, i32_w]
                  rfl
                refine one_ (i := 2) (N := some 19) #[true, true, true, true, true, false, false, false] rfl rfl (one_of HT_.out (by kernel_rfl)) (by decide) (fun K hK => ?_)
                refine Kd.R_append_rows_step k25 (w0 := w) w.heap.size (by rfl) (.tmp 17) (.tmp 18) 22 25 (.agg #[(.int .i64 0), (.int .i64 0), (.int .u32 0), (.int .u32 0), (.int .u32 0), (.int .u32 0), (.int .u32 0), (.int .u32 0), (.int .i64 0)]) 48 rfl Try.underlying22 info25 rfl (by decide) (by omega) v187 y186 l0 _ _ _ (fun k_ => (w.heap.size ≤ k_) ∧ some k_ ≠ (v193 : Value).ownBlock ∧ k_ ≠ gb184) (fun _ => False) rfl rfl ?aO ?aR (fun _ _ h => h) (fun _ h => h.elim) ?aF ?aB ?aS ?aL ?_
                (case aR => repeat (first | exact (Kd.V_reads' HO0.out).2.2 | (with_reducible refine Kd.C_alloc ?_ _) | (with_reducible refine Kd.C_drewN ?_ _) | (with_reducible refine Kd.C_drew ?_)))
                (case aB => exact (by repeat (first | (with_reducible first | exact HB.out | apply below_alloc | apply pw_below_drewN | apply below_drew1 | refine below_set ?_ GE184.out) | exact HB.out)))
                (case aF => exact (fun k_ hk => ⟨(Nat.le_trans (below_size (by repeat (first | (with_reducible first | exact HB.out | apply below_alloc | apply pw_below_drewN | apply below_drew1 | refine below_set ?_ GE184.out) | exact HB.out))) hk), Kd.fresh' (Kd.R_lt (by (with_reducible repeat (first | apply Kd.R_alloc | apply Kd.R_drewN | apply Kd.R_drew)); exact HO194.out)) k_ hk, Kd.freshB (g := gb184) (o := .cells #[.int .i64 a2_0, .int .i64 a2_1, .int .u32 a2_2, .int .u32 a2_3, .int .u32 a2_4, .int .u32 a2_5, .int .u32 a2_6, .int .u32 a2_7, .int .i64 a2_8] 25 (0, 0)) (by (with_reducible repeat (first | refine blk_drewN ?_ _ | refine blk_drew ?_ | refine blk_alloc ?_ _)); exact BK184.out) k_ hk⟩))
                (case aO => exact (by (with_reducible repeat (first | apply Kd.R_alloc | apply Kd.R_drewN | apply Kd.R_drew)); exact Kd.R_mono HO188.out (fun _ hk => ⟨hk.1.1.1, ⟨hk.2, hk.1.2⟩⟩)))
                (case aS => exact (below_size (by repeat (first | (with_reducible first | exact HB.out | apply below_alloc | apply pw_below_drewN | apply below_drew1 | refine below_set ?_ GE184.out) | exact HB.out))))
                (case aL => have := LMc10.out; omega)
                intro v190 w20 ho hb hg hat
                rw [← Ny189.out] at ho
                have n0_ := Aside0.mk (Kd.V_afterv (ok := (fun k_ => (P0_ k_ ∨ w.heap.size ≤ k_) ∧ some k_ ≠ (v193 : Value).ownBlock ∧ k_ ≠ gb184)) (by (with_reducible repeat (first | apply Kd.V_alloc | apply Kd.V_drewN | apply Kd.V_drew)); exact Kd.V_mono HO0.out (fun _ hk => ⟨⟨hk.1.1.1, ⟨hk.2, hk.1.1.2⟩⟩, hk.1.2⟩)) hg hat)
                have n1_ := Aside0.mk (blk_grown (g := gb184) (o := .cells #[.int .i64 a2_0, .int .i64 a2_1, .int .u32 a2_2, .int .u32 a2_3, .int .u32 a2_4, .int .u32 a2_5, .int .u32 a2_6, .int .u32 a2_7, .int .i64 a2_8] 25 (0, 0)) (by (with_reducible repeat (first | refine blk_drewN ?_ _ | refine blk_drew ?_ | refine blk_alloc ?_ _)); exact BK184.out) hg (Kd.R_away HO188.out (fun _ hk => hk.1.2)))
                have n2_ := Aside0.mk (Kd.R_after (ok := (fun k_ => (w.heap.size ≤ k_) ∧ k_ ≠ gb184)) (by (with_reducible repeat (first | apply Kd.R_alloc | apply Kd.R_drewN | apply Kd.R_drew)); exact Kd.R_mono HO194.out (fun _ hk => ⟨⟨hk.1.1.1, hk.2⟩, hk.1.2⟩)) hg hat)
                have n3_ := Aside0.mk (hb)
                have n4_ := Aside0.mk (ho)
                clear HO0
                clear BK184
                clear HO194
                clear HB
                clear HO188
                have HO0 := n0_
                have BK184 := n1_
                have HO194 := n2_
                have HB := n3_
                have HO191 := n4_
                clear n0_ n1_ n2_ n3_ n4_
                clear ho hb hg hat
                refine hK.out _ _ ⟨(blk_cell BK184.out 0).trans rfl, (blk_cell BK184.out 1).trans rfl, (blk_cell BK184.out 2).trans rfl, (blk_cell BK184.out 3).trans rfl, (blk_cell BK184.out 4).trans rfl, (blk_cell BK184.out 5).trans rfl, (blk_cell BK184.out 6).trans rfl, (blk_cell BK184.out 7).trans rfl, (blk_cell BK184.out 8).trans rfl⟩ (fun hHeld => ?_)
                clear hK K
                refine norm_ (a' := ?_) ?_ ?_
                rotate_left
                · show Act.put _ (some 19) _ = _
                  simp only [Act.put, List.setIfInBounds_toArray, List.set_cons_zero, List.set_cons_succ, i64_w, i32_w]
                  rfl
                exact norm_ (by simp only [putAll, Act.put, List.setIfInBounds_toArray, List.set_cons_zero, List.set_cons_succ]) (hCont (v187, v190, v193) _ ⟨hHeld, (by (with_reducible repeat (first | apply Kd.V_alloc | apply Kd.V_drewN | apply Kd.V_drew)); exact Kd.V_mono HO0.out (fun _ hk => ⟨hk.1.1, ⟨hk.2, ⟨hk.1.2.1, hk.1.2.2⟩⟩⟩)), (by (with_reducible repeat (first | apply Kd.R_alloc | apply Kd.R_drewN | apply Kd.R_drew)); exact HO191.out), (by (with_reducible repeat (first | apply Kd.R_alloc | apply Kd.R_drewN | apply Kd.R_drew)); exact Kd.R_mono HO194.out (fun _ hk => ⟨hk.1.1, ⟨hk.2, hk.1.2⟩⟩)), (by (with_reducible repeat (first | refine blk_drewN ?_ _ | refine blk_drew ?_ | refine blk_alloc ?_ _)); exact BK184.out), (by repeat (first | (with_reducible first | exact HB.out | apply below_alloc | apply pw_below_drewN | apply below_drew1 | refine below_set ?_ GE184.out) | exact HB.out))⟩)
            · skip
              refine Kd.R_lit_step k25 _ 25 ?hg (N := 21) ?hd (xs := ([(⟨a2_0, a2_1, a2_2, a2_3, a2_4, a2_5, a2_6, a2_7, a2_8⟩ : S25)] : List (S25))) (inner := [.int .i64 a2_0, .int .i64 a2_1, .int .u32 a2_2, .int .u32 a2_3, .int .u32 a2_4, .int .u32 a2_5, .int .u32 a2_6, .int .u32 a2_7, .int .i64 a2_8]) (ok := fun _ => True) (okp := fun _ => True) ?hr ?hp (fun _ hk => hk) trivial (Below.refl _ _) (Nat.le_refl _) (by simp) ?_; (case hd => rfl); (case hg => rfl); (case hr => first | (go_simp; done) | (go_simp; rfl)); (case hp => exact (Reps.c9 (show Kd.M k25 _ _ _ (⟨a2_0, a2_1, a2_2, a2_3, a2_4, a2_5, a2_6, a2_7, a2_8⟩ : S25) [.int .i64 a2_0, .int .i64 a2_1, .int .u32 a2_2, .int .u32 a2_3, .int .u32 a2_4, .int .u32 a2_5, .int .u32 a2_6, .int .u32 a2_7, .int .i64 a2_8] from (k25_mkM _ _ _ (⟨a2_0, a2_1, a2_2, a2_3, a2_4, a2_5, a2_6, a2_7, a2_8⟩ : S25) )) (Reps.none _ _)))
              intro v193 w16 ho17 hb hg_ hnew_
              clear hg_ hnew_
              (first | rw [← Ny192.out] at ho17 | (simp only [Int.reduceToNat] at ho17; rw [← Ny192.out] at ho17))
              have n0_ := Aside0.mk (Kd.V_elder' (by (with_reducible repeat (first | apply Kd.V_alloc | apply Kd.V_drewN | apply Kd.V_drew)); exact HO0.out) (Kd.R_base ho17) hb)
              have n1_ := Aside0.mk (Kd.R_lower (Kd.R_newB (Kd.R_newM (M := fun k_ => (w.heap.size ≤ k_)) ho17 (below_size (by repeat (first | (with_reducible first | exact HB.out | apply below_alloc | apply pw_below_drewN | apply below_drew1 | refine below_set ?_ GE184.out) | exact HB.out))) (fun k_ h_ => h_)) (g := gb184) (o := .cells #[.int .i64 a2_0, .int .i64 a2_1, .int .u32 a2_2, .int .u32 a2_3, .int .u32 a2_4, .int .u32 a2_5, .int .u32 a2_6, .int .u32 a2_7, .int .i64 a2_8] 25 (0, 0)) (by (with_reducible repeat (first | refine blk_drewN ?_ _ | refine blk_drew ?_ | refine blk_alloc ?_ _)); exact BK184.out)) (below_size (by repeat (first | (with_reducible first | exact HB.out | apply below_alloc | apply pw_below_drewN | apply below_drew1 | refine below_set ?_ GE184.out) | exact HB.out))))
              have n2_ := Aside0.mk (blk_below (g := gb184) (o := .cells #[.int .i64 a2_0, .int .i64 a2_1, .int .u32 a2_2, .int .u32 a2_3, .int .u32 a2_4, .int .u32 a2_5, .int .u32 a2_6, .int .u32 a2_7, .int .i64 a2_8] 25 (0, 0)) (by (with_reducible repeat (first | refine blk_drewN ?_ _ | refine blk_drew ?_ | refine blk_alloc ?_ _)); exact BK184.out) hb)
              have n3_ := Aside0.mk (below_step (by repeat (first | (with_reducible first | exact HB.out | apply below_alloc | apply pw_below_drewN | apply below_drew1 | refine below_set ?_ GE184.out) | exact HB.out)) hb)
              clear HO0
              clear BK184
              clear HB
              have HO0 := n0_
              have HO194 := n1_
              have BK184 := n2_
              have HB := n3_
              clear n0_ n1_ n2_ n3_
              clear hb ho17
              refine hK.out _ _ ⟨(blk_cell BK184.out 0).trans rfl, (blk_cell BK184.out 1).trans rfl, (blk_cell BK184.out 2).trans rfl, (blk_cell BK184.out 3).trans rfl, (blk_cell BK184.out 4).trans rfl, (blk_cell BK184.out 5).trans rfl, (blk_cell BK184.out 6).trans rfl, (blk_cell BK184.out 7).trans rfl, (blk_cell BK184.out 8).trans rfl⟩ (fun hHeld => ?_)
              clear hK K
              refine norm_ (a' := ?_) ?_ ?_
              rotate_left
              · show Act.put _ (some 21) _ = _
                simp only [Act.put, List.setIfInBounds_toArray, List.set_cons_zero, List.set_cons_succ, i64_w, i32_w]
                rfl
              refine one_ (i := 0) (N := some 17) #[true, true, false, true, true, false, false, false] rfl rfl (one_of HT_.out (by kernel_rfl)) (by decide) (fun K hK => ?_)
              refine Kd.R_lit_step k25 _ 25 ?hg (N := 17) ?hd (xs := ([] : List (S25))) (inner := []) (ok := fun _ => True) (okp := fun _ => True) ?hr ?hp (fun _ hk => hk) trivial (Below.refl _ _) (Nat.le_refl _) (by simp) ?_; (case hd => rfl); (case hg => rfl); (case hr => first | (go_simp; done) | (go_simp; rfl)); (case hp => exact (Reps.none _ _))
              intro v187 w18 ho19 hb hg_ hnew_
              clear hg_ hnew_
              (first | rw [← Ny186.out] at ho19 | (simp only [Int.reduceToNat] at ho19; rw [← Ny186.out] at ho19))
              have n0_ := Aside0.mk (Kd.V_elder' (by (with_reducible repeat (first | apply Kd.V_alloc | apply Kd.V_drewN | apply Kd.V_drew)); exact HO0.out) (Kd.R_base ho19) hb)
              have n1_ := Aside0.mk (Kd.R_elder' (by (with_reducible repeat (first | apply Kd.R_alloc | apply Kd.R_drewN | apply Kd.R_drew)); exact HO194.out) (Kd.R_base ho19) hb)
              have n2_ := Aside0.mk (Kd.R_lower (Kd.R_newB (Kd.R_new' (Kd.R_newM (M := fun k_ => (w.heap.size ≤ k_)) ho19 (below_size (by repeat (first | (with_reducible first | exact HB.out | apply below_alloc | apply pw_below_drewN | apply below_drew1 | refine below_set ?_ GE184.out) | exact HB.out))) (fun k_ h_ => h_)) (Kd.R_lt (by (with_reducible repeat (first | apply Kd.R_alloc | apply Kd.R_drewN | apply Kd.R_drew)); exact HO194.out))) (g := gb184) (o := .cells #[.int .i64 a2_0, .int .i64 a2_1, .int .u32 a2_2, .int .u32 a2_3, .int .u32 a2_4, .int .u32 a2_5, .int .u32 a2_6, .int .u32 a2_7, .int .i64 a2_8] 25 (0, 0)) (by (with_reducible repeat (first | refine blk_drewN ?_ _ | refine blk_drew ?_ | refine blk_alloc ?_ _)); exact BK184.out)) (below_size (by repeat (first | (with_reducible first | exact HB.out | apply below_alloc | apply pw_below_drewN | apply below_drew1 | refine below_set ?_ GE184.out) | exact HB.out))))
              have n3_ := Aside0.mk (blk_below (g := gb184) (o := .cells #[.int .i64 a2_0, .int .i64 a2_1, .int .u32 a2_2, .int .u32 a2_3, .int .u32 a2_4, .int .u32 a2_5, .int .u32 a2_6, .int .u32 a2_7, .int .i64 a2_8] 25 (0, 0)) (by (with_reducible repeat (first | refine blk_drewN ?_ _ | refine blk_drew ?_ | refine blk_alloc ?_ _)); exact BK184.out) hb)
              have n4_ := Aside0.mk (below_step (by repeat (first | (with_reducible first | exact HB.out | apply below_alloc | apply pw_below_drewN | apply below_drew1 | refine below_set ?_ GE184.out) | exact HB.out)) hb)
              clear HO0
              clear HO194
              clear BK184
              clear HB
              have HO0 := n0_
              have HO194 := n1_
              have HO188 := n2_
              have BK184 := n3_
              have HB := n4_
              clear n0_ n1_ n2_ n3_ n4_
              clear hb ho19
              refine hK.out _ _ ⟨(blk_cell BK184.out 0).trans rfl, (blk_cell BK184.out 1).trans rfl, (blk_cell BK184.out 2).trans rfl, (blk_cell BK184.out 3).trans rfl, (blk_cell BK184.out 4).trans rfl, (blk_cell BK184.out 5).trans rfl, (blk_cell BK184.out 6).trans rfl, (blk_cell BK184.out 7).trans rfl, (blk_cell BK184.out 8).trans rfl⟩ (fun hHeld => ?_)
              clear hK K
              refine norm_ (a' := ?_) ?_ ?_
              rotate_left
              · show Act.put _ (some 17) _ = _
                simp only [Act.put, List.setIfInBounds_toArray, List.set_cons_zero, List.set_cons_succ, i64_w, i32_w]
                rfl
              refine one_ (i := 2) (N := some 19) #[true, true, true, true, true, false, false, false] rfl rfl (one_of HT_.out (by kernel_rfl)) (by decide) (fun K hK => ?_)
              refine Kd.R_append_rows_step k25 (w0 := w) w.heap.size (by rfl) (.tmp 17) (.tmp 18) 22 25 (.agg #[(.int .i64 0), (.int .i64 0), (.int .u32 0), (.int .u32 0), (.int .u32 0), (.int .u32 0), (.int .u32 0), (.int .u32 0), (.int .i64 0)]) 48 rfl Try.underlying22 info25 rfl (by decide) (by omega) v187 y186 l0 _ _ _ (fun k_ => (w.heap.size ≤ k_) ∧ some k_ ≠ (v193 : Value).ownBlock ∧ k_ ≠ gb184) (fun _ => False) rfl rfl ?aO ?aR (fun _ _ h => h) (fun _ h => h.elim) ?aF ?aB ?aS ?aL ?_
              (case aR => repeat (first | exact (Kd.V_reads' HO0.out).2.2 | (with_reducible refine Kd.C_alloc ?_ _) | (with_reducible refine Kd.C_drewN ?_ _) | (with_reducible refine Kd.C_drew ?_)))
              (case aB => exact (by repeat (first | (with_reducible first | exact HB.out | apply below_alloc | apply pw_below_drewN | apply below_drew1 | refine below_set ?_ GE184.out) | exact HB.out)))
              (case aF => exact (fun k_ hk => ⟨(Nat.le_trans (below_size (by repeat (first | (with_reducible first | exact HB.out | apply below_alloc | apply pw_below_drewN | apply below_drew1 | refine below_set ?_ GE184.out) | exact HB.out))) hk), Kd.fresh' (Kd.R_lt (by (with_reducible repeat (first | apply Kd.R_alloc | apply Kd.R_drewN | apply Kd.R_drew)); exact HO194.out)) k_ hk, Kd.freshB (g := gb184) (o := .cells #[.int .i64 a2_0, .int .i64 a2_1, .int .u32 a2_2, .int .u32 a2_3, .int .u32 a2_4, .int .u32 a2_5, .int .u32 a2_6, .int .u32 a2_7, .int .i64 a2_8] 25 (0, 0)) (by (with_reducible repeat (first | refine blk_drewN ?_ _ | refine blk_drew ?_ | refine blk_alloc ?_ _)); exact BK184.out) k_ hk⟩))
              (case aO => exact (by (with_reducible repeat (first | apply Kd.R_alloc | apply Kd.R_drewN | apply Kd.R_drew)); exact Kd.R_mono HO188.out (fun _ hk => ⟨hk.1.1.1, ⟨hk.1.2, hk.2⟩⟩)))
              (case aS => exact (below_size (by repeat (first | (with_reducible first | exact HB.out | apply below_alloc | apply pw_below_drewN | apply below_drew1 | refine below_set ?_ GE184.out) | exact HB.out))))
              (case aL => have := LMc10.out; omega)
              intro v190 w20 ho hb hg hat
              rw [← Ny189.out] at ho
              have n0_ := Aside0.mk (Kd.V_afterv (ok := (fun k_ => (P0_ k_ ∨ w.heap.size ≤ k_) ∧ some k_ ≠ (v193 : Value).ownBlock ∧ k_ ≠ gb184)) (by (with_reducible repeat (first | apply Kd.V_alloc | apply Kd.V_drewN | apply Kd.V_drew)); exact Kd.V_mono HO0.out (fun _ hk => ⟨⟨hk.1.1.1, ⟨hk.1.2, hk.1.1.2⟩⟩, hk.2⟩)) hg hat)
              have n1_ := Aside0.mk (blk_grown (g := gb184) (o := .cells #[.int .i64 a2_0, .int .i64 a2_1, .int .u32 a2_2, .int .u32 a2_3, .int .u32 a2_4, .int .u32 a2_5, .int .u32 a2_6, .int .u32 a2_7, .int .i64 a2_8] 25 (0, 0)) (by (with_reducible repeat (first | refine blk_drewN ?_ _ | refine blk_drew ?_ | refine blk_alloc ?_ _)); exact BK184.out) hg (Kd.R_away HO188.out (fun _ hk => hk.2)))
              have n2_ := Aside0.mk (Kd.R_after (ok := (fun k_ => (w.heap.size ≤ k_) ∧ k_ ≠ gb184)) (by (with_reducible repeat (first | apply Kd.R_alloc | apply Kd.R_drewN | apply Kd.R_drew)); exact Kd.R_mono HO194.out (fun _ hk => ⟨⟨hk.1.1.1, hk.1.2⟩, hk.2⟩)) hg hat)
              have n3_ := Aside0.mk (hb)
              have n4_ := Aside0.mk (ho)
              clear HO0
              clear BK184
              clear HO194
              clear HB
              clear HO188
              have HO0 := n0_
              have BK184 := n1_
              have HO194 := n2_
              have HB := n3_
              have HO191 := n4_
              clear n0_ n1_ n2_ n3_ n4_
              clear ho hb hg hat
              refine hK.out _ _ ⟨(blk_cell BK184.out 0).trans rfl, (blk_cell BK184.out 1).trans rfl, (blk_cell BK184.out 2).trans rfl, (blk_cell BK184.out 3).trans rfl, (blk_cell BK184.out 4).trans rfl, (blk_cell BK184.out 5).trans rfl, (blk_cell BK184.out 6).trans rfl, (blk_cell BK184.out 7).trans rfl, (blk_cell BK184.out 8).trans rfl⟩ (fun hHeld => ?_)
              clear hK K
              refine norm_ (a' := ?_) ?_ ?_
              rotate_left
              · show Act.put _ (some 19) _ = _
                simp only [Act.put, List.setIfInBounds_toArray, List.set_cons_zero, List.set_cons_succ, i64_w, i32_w]
                rfl
              exact norm_ (by simp only [putAll, Act.put, List.setIfInBounds_toArray, List.set_cons_zero, List.set_cons_succ]) (hCont (v187, v190, v193) _ ⟨hHeld, (by (with_reducible repeat (first | apply Kd.V_alloc | apply Kd.V_drewN | apply Kd.V_drew)); exact Kd.V_mono HO0.out (fun _ hk => ⟨hk.1.1, ⟨hk.2, ⟨hk.1.2.1, hk.1.2.2⟩⟩⟩)), (by (with_reducible repeat (first | apply Kd.R_alloc | apply Kd.R_drewN | apply Kd.R_drew)); exact HO191.out), (by (with_reducible repeat (first | apply Kd.R_alloc | apply Kd.R_drewN | apply Kd.R_drew)); exact Kd.R_mono HO194.out (fun _ hk => ⟨hk.1.1, ⟨hk.2, hk.1.2⟩⟩)), (by (with_reducible repeat (first | refine blk_drewN ?_ _ | refine blk_drew ?_ | refine blk_alloc ?_ _)); exact BK184.out), (by repeat (first | (with_reducible first | exact HB.out | apply below_alloc | apply pw_below_drewN | apply below_drew1 | refine below_set ?_ GE184.out) | exact HB.out))⟩)
          rintro ⟨v187, v190, v193⟩ w21 ⟨hS_, h0_, h1_, h2_, h3_, h4_⟩
          have n0_ : Aside0 (Kd.V k25 25 w21 w.heap.size (fun k_ => (P0_ k_ ∨ w.heap.size ≤ k_) ∧ some k_ ≠ (v190 : Value).ownBlock ∧ some k_ ≠ (v193 : Value).ownBlock ∧ k_ ≠ gb184) (.slice A0 l0.length c0) l0) := ⟨h0_⟩
          have n1_ : Aside0 (Kd.R k25 25 w21 w.heap.size (fun k_ => (w.heap.size ≤ k_) ∧ some k_ ≠ (v193 : Value).ownBlock ∧ k_ ≠ gb184) v190 y189) := ⟨h1_⟩
          have n2_ : Aside0 (Kd.R k25 25 w21 w.heap.size (fun k_ => (w.heap.size ≤ k_) ∧ some k_ ≠ (v190 : Value).ownBlock ∧ k_ ≠ gb184) v193 y192) := ⟨h2_⟩
          have n3_ : Aside0 (w21.heap[gb184]? = some (.cells #[.int .i64 a2_0, .int .i64 a2_1, .int .u32 a2_2, .int .u32 a2_3, .int .u32 a2_4, .int .u32 a2_5, .int .u32 a2_6, .int .u32 a2_7, .int .i64 a2_8] 25 (0, 0))) := ⟨h3_⟩
          have n4_ : Aside0 (Below w.heap.size w w21) := ⟨h4_⟩
          clear HO0
          clear BK184
          clear HB
          clear h0_ h1_ h2_ h3_ h4_
          have HO0 := n0_
          have HO191 := n1_
          have HO194 := n2_
          have BK184 := n3_
          have HB := n4_
          clear n0_ n1_ n2_ n3_ n4_
          have hHeld : w21.cell? ⟨gb184, 0, none⟩ = some (.int .i64 a2_0) ∧ w21.cell? ⟨gb184, 1, none⟩ = some (.int .i64 a2_1) ∧ w21.cell? ⟨gb184, 2, none⟩ = some (.int .u32 a2_2) ∧ w21.cell? ⟨gb184, 3, none⟩ = some (.int .u32 a2_3) ∧ w21.cell? ⟨gb184, 4, none⟩ = some (.int .u32 a2_4) ∧ w21.cell? ⟨gb184, 5, none⟩ = some (.int .u32 a2_5) ∧ w21.cell? ⟨gb184, 6, none⟩ = some (.int .u32 a2_6) ∧ w21.cell? ⟨gb184, 7, none⟩ = some (.int .u32 a2_7) ∧ w21.cell? ⟨gb184, 8, none⟩ = some (.int .i64 a2_8) := hS_
          obtain ⟨Ao23, co23, eo23⟩ := Kd.R_slice HO194.out
          (first | subst eo23 | (injection eo23 with f1_ f2_ f3_; have f4_ := f1_.symm; have f5_ := f3_.symm; clear f1_ f2_ f3_; subst f4_; subst f5_))
          refine norm_ (a' := ?_) ?_ ?_
          rotate_left
          · simp only [putAll, Act.put, List.setIfInBounds_toArray, List.set_cons_zero, List.set_cons_succ]
            rfl
          refine one_ (i := 5) (N := some 22) #[true, true, true, true, true, true, false, false] rfl rfl (one_of HT_.out (by kernel_rfl)) (by decide) (fun K hK => ?_)
          refine Kd.R_append_rows_step k25 (w0 := w) w.heap.size (by rfl) (.tmp 19) (.tmp 21) 22 25 (.agg #[(.int .i64 0), (.int .i64 0), (.int .u32 0), (.int .u32 0), (.int .u32 0), (.int .u32 0), (.int .u32 0), (.int .u32 0), (.int .i64 0)]) 48 rfl Try.underlying22 info25 rfl (by decide) (by omega) v190 y189 y192 _ _ _ (fun k_ => (w.heap.size ≤ k_) ∧ some k_ ≠ (.slice Ao23 y192.length co23 : Value).ownBlock ∧ k_ ≠ gb184) (fun _ => False) rfl rfl ?aO ?aR (fun _ _ h => h) (fun _ h => h.elim) ?aF ?aB ?aS ?aL ?_
          (case aR => repeat (first | exact (Kd.R_reads' HO194.out).2.2 | (with_reducible refine Kd.C_alloc ?_ _) | (with_reducible refine Kd.C_drewN ?_ _) | (with_reducible refine Kd.C_drew ?_)))
          (case aB => exact (by repeat (first | (with_reducible first | exact HB.out | apply below_alloc | apply pw_below_drewN | apply below_drew1 | refine below_set ?_ GE184.out) | exact HB.out)))
          (case aF => exact (fun k_ hk => ⟨(Nat.le_trans (below_size (by repeat (first | (with_reducible first | exact HB.out | apply below_alloc | apply pw_below_drewN | apply below_drew1 | refine below_set ?_ GE184.out) | exact HB.out))) hk), Kd.fresh' (Kd.R_lt (by (with_reducible repeat (first | apply Kd.R_alloc | apply Kd.R_drewN | apply Kd.R_drew)); exact HO194.out)) k_ hk, Kd.freshB (g := gb184) (o := .cells #[.int .i64 a2_0, .int .i64 a2_1, .int .u32 a2_2, .int .u32 a2_3, .int .u32 a2_4, .int .u32 a2_5, .int .u32 a2_6, .int .u32 a2_7, .int .i64 a2_8] 25 (0, 0)) (by (with_reducible repeat (first | refine blk_drewN ?_ _ | refine blk_drew ?_ | refine blk_alloc ?_ _)); exact BK184.out) k_ hk⟩))
          (case aO => exact (by (with_reducible repeat (first | apply Kd.R_alloc | apply Kd.R_drewN | apply Kd.R_drew)); exact HO191.out))
          (case aS => exact (below_size (by repeat (first | (with_reducible first | exact HB.out | apply below_alloc | apply pw_below_drewN | apply below_drew1 | refine below_set ?_ GE184.out) | exact HB.out))))
          (case aL => have := LMc11.out; omega)
          intro v196 w22 ho hb hg hat
          rw [← Ny195.out] at ho
          have n0_ := Aside0.mk (Kd.V_afterv (ok := (fun k_ => (P0_ k_ ∨ w.heap.size ≤ k_) ∧ some k_ ≠ (.slice Ao23 y192.length co23 : Value).ownBlock ∧ k_ ≠ gb184)) (by (with_reducible repeat (first | apply Kd.V_alloc | apply Kd.V_drewN | apply Kd.V_drew)); exact Kd.V_mono HO0.out (fun _ hk => ⟨⟨hk.1, ⟨hk.2.2.1, hk.2.2.2⟩⟩, hk.2.1⟩)) hg hat)
          have n1_ := Aside0.mk (blk_grown (g := gb184) (o := .cells #[.int .i64 a2_0, .int .i64 a2_1, .int .u32 a2_2, .int .u32 a2_3, .int .u32 a2_4, .int .u32 a2_5, .int .u32 a2_6, .int .u32 a2_7, .int .i64 a2_8] 25 (0, 0)) (by (with_reducible repeat (first | refine blk_drewN ?_ _ | refine blk_drew ?_ | refine blk_alloc ?_ _)); exact BK184.out) hg (Kd.R_away HO191.out (fun _ hk => hk.2.2)))
          have n2_ := Aside0.mk (Kd.R_after (ok := (fun k_ => (w.heap.size ≤ k_) ∧ k_ ≠ gb184)) (by (with_reducible repeat (first | apply Kd.R_alloc | apply Kd.R_drewN | apply Kd.R_drew)); exact Kd.R_mono HO194.out (fun _ hk => ⟨⟨hk.1, hk.2.2⟩, hk.2.1⟩)) hg hat)
          have n3_ := Aside0.mk (hb)
          have n4_ := Aside0.mk (ho)
          clear HO0
          clear BK184
          clear HO194
          clear HB
          clear HO191
          have HO0 := n0_
          have BK184 := n1_
          have HO194 := n2_
          have HB := n3_
          have HO197 := n4_
          clear n0_ n1_ n2_ n3_ n4_
          clear ho hb hg hat
          refine hK.out _ _ ⟨(blk_cell BK184.out 0).trans rfl, (blk_cell BK184.out 1).trans rfl, (blk_cell BK184.out 2).trans rfl, (blk_cell BK184.out 3).trans rfl, (blk_cell BK184.out 4).trans rfl, (blk_cell BK184.out 5).trans rfl, (blk_cell BK184.out 6).trans rfl, (blk_cell BK184.out 7).trans rfl, (blk_cell BK184.out 8).trans rfl⟩ (fun hHeld => ?_)
          clear hK K
          refine norm_ (a' := ?_) ?_ ?_
          rotate_left
          · show Act.put _ (some 22) _ = _
            simp only [Act.put, List.setIfInBounds_toArray, List.set_cons_zero, List.set_cons_succ, i64_w, i32_w]
            rfl
          refine pure_ (i := 6) (N := some 6) (v := ?_) (a' := ?_) #[true, true, true, true, true, true, true, false] rfl rfl (any_of HT_.out (by kernel_rfl)) (fun _ _ _ h => h) (Or.inl ⟨by rfl, ?_⟩) ?_ ?_
          rotate_left
          · intro w'
            go_simp
            with_reducible rfl
          rotate_left
          · simp only [Act.put, List.setIfInBounds_toArray, List.set_cons_zero, List.set_cons_succ, i64_w, i32_w]
            rfl
          refine pure_ (i := 7) (N := some 7) (v := ?_) (a' := ?_) #[true, true, true, true, true, true, true, true] rfl rfl (any_of HT_.out (by kernel_rfl)) (fun _ _ _ h => h) (Or.inl ⟨by rfl, ?_⟩) ?_ ?_
          rotate_left
          · intro w'
            go_simp
            with_reducible rfl
          rotate_left
          · simp only [Act.put, List.setIfInBounds_toArray, List.set_cons_zero, List.set_cons_succ, i64_w, i32_w]
            rfl
          refine done_ (done_of HT_.out (by kernel_rfl)) ?_
          try go_wp2
          go_ret2
          exact ⟨_, by first | rfl | (simp [errW_none, errW_some] <;> rfl) | (simp [*, errW_none, errW_some] <;> rfl), Kd.V_mono (Kd.R_V (by (with_reducible repeat (first | apply Kd.R_alloc | apply Kd.R_drewN | apply Kd.R_drew)); exact Kd.R_mono HO197.out (fun _ hk => hk.1))) (fun k_ hk => by first | exact ⟨(.inr (hk.1)), hk.2⟩ | exact (.inr (hk))), by repeat (first | (with_reducible first | exact HB.out | apply below_alloc | apply pw_below_drewN | apply below_drew1 | refine below_set ?_ GE184.out) | exact HB.out)⟩
        · rw [if_neg c11] at H
          exact absurd H (by simp)
      · rw [if_neg c10] at H
        exact absurd H (by simp)
  · replace c5 := Bool.eq_false_iff.mpr c5
    subst c5
    have H1 : (some (l0, 1)) = some (r1, r2) := by rw [if_neg (show ¬ (false = true) by decide)] at H; exact H
    clear H
    have H := H1
    clear H1
    simp only [Option.some.injEq, Prod.mk.injEq] at H
    obtain ⟨rfl, rfl⟩ := H
    go_enter Try.func13, Try.ntmps13
    go_wp2_with (first | ((with_reducible refine gate_dst (N := 5) rfl ?_); refine box_event ?hg (N := 5) ?hd (cs := #[.int .i64 a2_0, .int .i64 a2_1, .int .u32 a2_2, .int .u32 a2_3, .int .u32 a2_4, .int .u32 a2_5, .int .u32 a2_6, .int .u32 a2_7, .int .i64 a2_8]) (t := 25) ?hr ?_; (case hd => rfl); (case hg => rfl); (case hr => first | (go_simp; done) | (go_simp; rfl)); intro gb184 hg w24 hbox hb; have n0_ := Aside0.mk (Kd.V_below (Kd.V_elderB (by (with_reducible repeat (first | apply Kd.V_alloc | apply Kd.V_drewN | apply Kd.V_drew)); exact HO0.out) gb184 (Nat.le_of_eq hg.symm)) hb); have n1_ := Aside0.mk (below_step (by repeat (first | (with_reducible first | exact HB.out | apply below_alloc | apply pw_below_drewN | apply below_drew1) | exact HB.out)) hb); have n2_ := Aside0.mk (hbox); have n3_ := Aside0.mk ((by rw [hg]; exact (below_size (by repeat (first | (with_reducible first | exact HB.out | apply below_alloc | apply pw_below_drewN | apply below_drew1) | exact HB.out))) : w.heap.size ≤ gb184)); have n4_ := Aside0.mk ((by rw [hg]; exact (below_size (by repeat (first | (with_reducible first | exact HB.out | apply below_alloc | apply pw_below_drewN | apply below_drew1) | exact HB.out))) : w.heap.size ≤ gb184)); clear HO0; clear HB; have HO0 := n0_; have HB := n1_; have BK184 := n2_; have GW184 := n3_; have GE184 := n4_; clear n0_ n1_ n2_ n3_ n4_; clear hb hbox hg; have hcz25_0 : w24.cell? ⟨gb184, 0, none⟩ = some (.int .i64 a2_0) := (blk_cell BK184.out 0).trans rfl; have hcz25_1 : w24.cell? ⟨gb184, 1, none⟩ = some (.int .i64 a2_1) := (blk_cell BK184.out 1).trans rfl; have hcz25_2 : w24.cell? ⟨gb184, 2, none⟩ = some (.int .u32 a2_2) := (blk_cell BK184.out 2).trans rfl; have hcz25_3 : w24.cell? ⟨gb184, 3, none⟩ = some (.int .u32 a2_3) := (blk_cell BK184.out 3).trans rfl; have hcz25_4 : w24.cell? ⟨gb184, 4, none⟩ = some (.int .u32 a2_4) := (blk_cell BK184.out 4).trans rfl; have hcz25_5 : w24.cell? ⟨gb184, 5, none⟩ = some (.int .u32 a2_5) := (blk_cell BK184.out 5).trans rfl; have hcz25_6 : w24.cell? ⟨gb184, 6, none⟩ = some (.int .u32 a2_6) := (blk_cell BK184.out 6).trans rfl; have hcz25_7 : w24.cell? ⟨gb184, 7, none⟩ = some (.int .u32 a2_7) := (blk_cell BK184.out 7).trans rfl; have hcz25_8 : w24.cell? ⟨gb184, 8, none⟩ = some (.int .i64 a2_8) := (blk_cell BK184.out 8).trans rfl; have hfz25_0 := blk_frozen BK184.out 0; have hfz25_1 := blk_frozen BK184.out 1; have hfz25_2 := blk_frozen BK184.out 2; have hfz25_3 := blk_frozen BK184.out 3; have hfz25_4 := blk_frozen BK184.out 4; have hfz25_5 := blk_frozen BK184.out 5; have hfz25_6 := blk_frozen BK184.out 6; have hfz25_7 := blk_frozen BK184.out 7; have hfz25_8 := blk_frozen BK184.out 8) | ((with_reducible refine gate_callee (f := 11) rfl ?_); refine goesL_ (some 9) rfl rfl Try.func11 (by kernel_rfl) rfl #[.agg #[.int .i64 a2_0, .int .i64 a2_1, .int .u32 a2_2, .int .u32 a2_3, .int .u32 a2_4, .int .u32 a2_5, .int .u32 a2_6, .int .u32 a2_7, .int .i64 a2_8]] rfl (by (try simp only [List.map_toArray, List.map_cons, List.map_nil]); first | done | rfl | (simp only [List.length_drop, List.length_take]; rfl)) ?_; (with_reducible refine (chamberlainref09_May.calls a2_0 a2_1 a2_2 a2_3 a2_4 a2_5 a2_6 a2_7 a2_8 false _ A4.out).mono ?_); rintro e w26 ⟨rfl, hb⟩; refine ⟨_, rfl, ?_⟩; have n0_ := Aside0.mk (Kd.V_below (by (with_reducible repeat (first | apply Kd.V_alloc | apply Kd.V_drewN | apply Kd.V_drew)); exact HO0.out) hb); have n1_ := Aside0.mk (blk_below (g := gb184) (o := .cells #[.int .i64 a2_0, .int .i64 a2_1, .int .u32 a2_2, .int .u32 a2_3, .int .u32 a2_4, .int .u32 a2_5, .int .u32 a2_6, .int .u32 a2_7, .int .i64 a2_8] 25 (0, 0)) (by (with_reducible repeat (first | refine blk_drewN ?_ _ | refine blk_drew ?_ | refine blk_alloc ?_ _)); exact BK184.out) hb); have n2_ := Aside0.mk (below_step (by repeat (first | (with_reducible first | exact HB.out | apply below_alloc | apply pw_below_drewN | apply below_drew1 | refine below_set ?_ GE184.out) | exact HB.out)) hb); clear HO0; clear BK184; clear HB; have HO0 := n0_; have BK184 := n1_; have HB := n2_; clear n0_ n1_ n2_; (try clear hb); (try clear hb2); (try clear hk); (try clear hi)))
    go_ret2
    exact ⟨_, by first | rfl | (simp [errW_none, errW_some] <;> rfl) | (simp [*, errW_none, errW_some] <;> rfl), by (with_reducible repeat (first | apply Kd.V_alloc | apply Kd.V_drewN | apply Kd.V_drew)); exact Kd.V_mono HO0.out (fun _ hk => hk.1), by repeat (first | (with_reducible first | exact HB.out | apply below_alloc | apply pw_below_drewN | apply below_drew1 | refine below_set ?_ GE184.out) | exact HB.out)⟩

/-! ### chamberlainref09_Set: function 15 -/
mutual
def chamberlainref09_Set.j0 : Nat → List (S25) → Int → Bool → Int → Int → Int → Int → Int → Int → Int → Int → Int → Option ((List (S25)) × Int)
  | 0, _, _, _, _, _, _, _, _, _, _, _, _ => none
  | k + 1, x0, x1, x22, x199000, x199001, x199002, x199003, x199004, x199005, x199006, x199007, x199008 => if x22 = true then (some (x0, 1)) else (chamberlainref09_Set.l0 k x0 x1 ([] : List (S25)) 0 x199000 x199001 x199002 x199003 x199004 x199005 x199006 x199007 x199008)
def chamberlainref09_Set.l0 : Nat → List (S25) → Int → List (S25) → Int → Int → Int → Int → Int → Int → Int → Int → Int → Int → Option ((List (S25)) × Int)
  | 0, _, _, _, _, _, _, _, _, _, _, _, _, _ => none
  | k + 1, x0, x1, x8, x9, x199000, x199001, x199002, x199003, x199004, x199005, x199006, x199007, x199008 => if x9 < (x0.length : Int) then (if x9 = x1 then (if x8.length < 2932031007402 then (chamberlainref09_Set.l0 k x0 x1 (x8 ++ [(⟨x199000, x199001, x199002, x199003, x199004, x199005, x199006, x199007, x199008⟩ : S25)]) (wrap64 (x9 + 1)) x199000 x199001 x199002 x199003 x199004 x199005 x199006 x199007 x199008) else (none)) else (if 0 ≤ x9 then (if x8.length < 2932031007402 then (chamberlainref09_Set.l0 k x0 x1 (x8 ++ [(⟨(rd_T25 x0 x9).f0, (rd_T25 x0 x9).f1, (rd_T25 x0 x9).f2, (rd_T25 x0 x9).f3, (rd_T25 x0 x9).f4, (rd_T25 x0 x9).f5, (rd_T25 x0 x9).f6, (rd_T25 x0 x9).f7, (rd_T25 x0 x9).f8⟩ : S25)]) (wrap64 (x9 + 1)) x199000 x199001 x199002 x199003 x199004 x199005 x199006 x199007 x199008) else (none)) else (none))) else (some (x8, 0))
end
def chamberlainref09_Set.f (k : Nat) (l0 : List (S25)) (a1 : Int) (a2_0 : Int) (a2_1 : Int) (a2_2 : Int) (a2_3 : Int) (a2_4 : Int) (a2_5 : Int) (a2_6 : Int) (a2_7 : Int) (a2_8 : Int) : Option ((List (S25)) × Int) := if a1 < 0 then (chamberlainref09_Set.j0 k l0 a1 true a2_0 a2_1 a2_2 a2_3 a2_4 a2_5 a2_6 a2_7 a2_8) else (if a1 ≥ (l0.length : Int) then (chamberlainref09_Set.j0 k l0 a1 true a2_0 a2_1 a2_2 a2_3 a2_4 a2_5 a2_6 a2_7 a2_8) else ((chamberlainref09_May.f a2_0 a2_1 a2_2 a2_3 a2_4 a2_5 a2_6 a2_7 a2_8).bind fun t199 => (chamberlainref09_Set.j0 k l0 a1 (!t199) a2_0 a2_1 a2_2 a2_3 a2_4 a2_5 a2_6 a2_7 a2_8)))
theorem chamberlainref09_Set.mono_l : ∀ k, (∀ y0 y1 y2 y3 y4 y5 y6 y7 y8 y9 y10 y11, LeO (chamberlainref09_Set.j0 k y0 y1 y2 y3 y4 y5 y6 y7 y8 y9 y10 y11) (chamberlainref09_Set.j0 (k + 1) y0 y1 y2 y3 y4 y5 y6 y7 y8 y9 y10 y11)) ∧ (∀ y0 y1 y2 y3 y4 y5 y6 y7 y8 y9 y10 y11 y12, LeO (chamberlainref09_Set.l0 k y0 y1 y2 y3 y4 y5 y6 y7 y8 y9 y10 y11 y12) (chamberlainref09_Set.l0 (k + 1) y0 y1 y2 y3 y4 y5 y6 y7 y8 y9 y10 y11 y12))
  | 0 => ⟨fun _ _ _ _ _ _ _ _ _ _ _ _ r h => by simp [chamberlainref09_Set.j0] at h, fun _ _ _ _ _ _ _ _ _ _ _ _ _ r h => by simp [chamberlainref09_Set.l0] at h⟩
  | k + 1 => by
    obtain ⟨ih0, ih1⟩ := chamberlainref09_Set.mono_l k
    refine ⟨?_, ?_⟩
    · intro y0 y1 y2 y3 y4 y5 y6 y7 y8 y9 y10 y11
      unfold chamberlainref09_Set.j0
      repeat' first
      | (with_reducible exact ih0 _ _ _ _ _ _ _ _ _ _ _ _)
      | (with_reducible exact ih1 _ _ _ _ _ _ _ _ _ _ _ _ _)
      | (with_reducible exact LeO.refl _)
      | (with_reducible exact LeO.none _)
      | (with_reducible refine LeO.ite ?_ ?_)
      | (with_reducible refine LeO.bind ?_ (fun _ => ?_))
      | exact ih0 _ _ _ _ _ _ _ _ _ _ _ _
      | exact ih1 _ _ _ _ _ _ _ _ _ _ _ _ _
      | exact LeO.none _
      | refine LeO.ite ?_ ?_
      | refine LeO.bind ?_ (fun _ => ?_)
    · intro y0 y1 y2 y3 y4 y5 y6 y7 y8 y9 y10 y11 y12
      unfold chamberlainref09_Set.l0
      repeat' first
      | (with_reducible exact ih0 _ _ _ _ _ _ _ _ _ _ _ _)
      | (with_reducible exact ih1 _ _ _ _ _ _ _ _ _ _ _ _ _)
      | (with_reducible exact LeO.refl _)
      | (with_reducible exact LeO.none _)
      | (with_reducible refine LeO.ite ?_ ?_)
      | (with_reducible refine LeO.bind ?_ (fun _ => ?_))
      | exact ih0 _ _ _ _ _ _ _ _ _ _ _ _
      | exact ih1 _ _ _ _ _ _ _ _ _ _ _ _ _
      | exact LeO.none _
      | refine LeO.ite ?_ ?_
      | refine LeO.bind ?_ (fun _ => ?_)
theorem chamberlainref09_Set.mono : ∀ a0 a1 a2 a3 a4 a5 a6 a7 a8 a9 a10 k, LeO (chamberlainref09_Set.f k a0 a1 a2 a3 a4 a5 a6 a7 a8 a9 a10) (chamberlainref09_Set.f (k + 1) a0 a1 a2 a3 a4 a5 a6 a7 a8 a9 a10) := by
  intro a0 a1 a2 a3 a4 a5 a6 a7 a8 a9 a10 k
  obtain ⟨ih0, ih1⟩ := chamberlainref09_Set.mono_l k
  unfold chamberlainref09_Set.f
  repeat' first
      | (with_reducible exact ih0 _ _ _ _ _ _ _ _ _ _ _ _)
      | (with_reducible exact ih1 _ _ _ _ _ _ _ _ _ _ _ _ _)
      | (with_reducible exact LeO.refl _)
      | (with_reducible exact LeO.none _)
      | (with_reducible refine LeO.ite ?_ ?_)
      | (with_reducible refine LeO.bind ?_ (fun _ => ?_))
      | exact ih0 _ _ _ _ _ _ _ _ _ _ _ _
      | exact ih1 _ _ _ _ _ _ _ _ _ _ _ _ _
      | exact LeO.none _
      | refine LeO.ite ?_ ?_
      | refine LeO.bind ?_ (fun _ => ?_)
set_option maxHeartbeats 8000000 in
set_option maxRecDepth 100000 in
theorem chamberlainref09_Set.calls (k : Nat) (P0_ : Nat → Prop) (A0 : Option Addr) (c0 : Nat) (l0 : List (S25)) (a1 : Int) (a2_0 : Int) (a2_1 : Int) (a2_2 : Int) (a2_3 : Int) (a2_4 : Int) (a2_5 : Int) (a2_6 : Int) (a2_7 : Int) (a2_8 : Int) (r1 : List (S25)) (r2 : Int) (w : World) (hs0 : Kd.V k25 25 w w.heap.size (fun k_ => P0_ k_) (.slice A0 l0.length c0) l0) (h : chamberlainref09_Set.f k l0 a1 a2_0 a2_1 a2_2 a2_3 a2_4 a2_5 a2_6 a2_7 a2_8 = some (r1, r2)) :
    Calls Try.prog 15 #[.slice A0 l0.length c0, .int .i64 a1, .agg #[.int .i64 a2_0, .int .i64 a2_1, .int .u32 a2_2, .int .u32 a2_3, .int .u32 a2_4, .int .u32 a2_5, .int .u32 a2_6, .int .u32 a2_7, .int .i64 a2_8]] w fun e w' => ∃ v0_ : Value, e = .returned (.tuple #[v0_, .int .i64 r2]) ∧ Kd.V k25 25 w' w.heap.size (fun k_ => (P0_ k_ ∨ w.heap.size ≤ k_)) v0_ r1 ∧ Below w.heap.size w w' := by
  have hu25 := Try.underlying25
  have HO0 := Aside0.mk (show Kd.V k25 25 w w.heap.size (fun k_ => (P0_ k_ ∨ w.heap.size ≤ k_)) (.slice A0 l0.length c0) l0 from Kd.V_mono hs0 (fun k_ hk => .inl hk))
  have HB := Aside0.mk (Below.refl w.heap.size w)
  have H : (if a1 < 0 then (chamberlainref09_Set.j0 k l0 a1 true a2_0 a2_1 a2_2 a2_3 a2_4 a2_5 a2_6 a2_7 a2_8) else (if a1 ≥ (l0.length : Int) then (chamberlainref09_Set.j0 k l0 a1 true a2_0 a2_1 a2_2 a2_3 a2_4 a2_5 a2_6 a2_7 a2_8) else ((chamberlainref09_May.f a2_0 a2_1 a2_2 a2_3 a2_4 a2_5 a2_6 a2_7 a2_8).bind fun t199 => (chamberlainref09_Set.j0 k l0 a1 (!t199) a2_0 a2_1 a2_2 a2_3 a2_4 a2_5 a2_6 a2_7 a2_8)))) = some (r1, r2) := h
  clear h
  have HC4 := Aside0.mk H
  clear H
  go_enter Try.func15, Try.ntmps15
  go_upto_region 1 with (first | ((with_reducible refine gate_dst (N := 5) rfl ?_); (try (refine gate_guard (by rfl) ?_; dsimp only)); refine box_event ?hg (N := 5) ?hd (cs := #[.int .i64 a2_0, .int .i64 a2_1, .int .u32 a2_2, .int .u32 a2_3, .int .u32 a2_4, .int .u32 a2_5, .int .u32 a2_6, .int .u32 a2_7, .int .i64 a2_8]) (t := 25) ?hr ?_; (case hd => rfl); (case hg => rfl); (case hr => first | (go_simp; done) | (go_simp; rfl)); intro gb198 hg w5 hbox hb; have n0_ := Aside0.mk (Kd.V_below (Kd.V_elderB (by (with_reducible repeat (first | apply Kd.V_alloc | apply Kd.V_drewN | apply Kd.V_drew)); exact HO0.out) gb198 (Nat.le_of_eq hg.symm)) hb); have n1_ := Aside0.mk (below_step (by repeat (first | (with_reducible first | exact HB.out | apply below_alloc | apply pw_below_drewN | apply below_drew1) | exact HB.out)) hb); have n2_ := Aside0.mk (hbox); have n3_ := Aside0.mk ((by rw [hg]; exact (below_size (by repeat (first | (with_reducible first | exact HB.out | apply below_alloc | apply pw_below_drewN | apply below_drew1) | exact HB.out))) : w.heap.size ≤ gb198)); have n4_ := Aside0.mk ((by rw [hg]; exact (below_size (by repeat (first | (with_reducible first | exact HB.out | apply below_alloc | apply pw_below_drewN | apply below_drew1) | exact HB.out))) : w.heap.size ≤ gb198)); clear HO0; clear HB; have HO0 := n0_; have HB := n1_; have BK198 := n2_; have GW198 := n3_; have GE198 := n4_; clear n0_ n1_ n2_ n3_ n4_; clear hb hbox hg))
  (try simp only [Act.put, List.setIfInBounds_toArray, List.set_cons_zero, List.set_cons_succ])
  go_cut [22] (fun v22 wc => ∃ (kq : Nat) (x22_3 : Bool), v22 = .bool x22_3 ∧ Aside0 (chamberlainref09_Set.j0 kq l0 a1 x22_3 a2_0 a2_1 a2_2 a2_3 a2_4 a2_5 a2_6 a2_7 a2_8 = some (r1, r2)) ∧ Aside0 (kq ≤ k) ∧ Aside0 (Kd.V k25 25 wc w.heap.size (fun k_ => (P0_ k_ ∨ w.heap.size ≤ k_) ∧ k_ ≠ gb198) (.slice A0 l0.length c0) l0) ∧ Aside0 (wc.heap[gb198]? = some (.cells #[.int .i64 a2_0, .int .i64 a2_1, .int .u32 a2_2, .int .u32 a2_3, .int .u32 a2_4, .int .u32 a2_5, .int .u32 a2_6, .int .u32 a2_7, .int .i64 a2_8] 25 (0, 0))) ∧ Aside0 (Below w.heap.size w wc))
  case first =>
    have H := HC4.out
    clear HC4
    by_cases c6 : a1 < 0
    · rw [if_pos c6] at H
      have c6b0 : decide (a1 < 0) = true := decide_eq_true c6
      clear c6
      (first | rw [c6b0] | (simp only [i64_w, i32_w]; rw [c6b0]) | skip)
      have H' := Aside0.mk H
      clear H
      go_wp2
      go_meet
      case rel => exact ⟨_, (true), (by first | rfl | (simp; done) | (simp [*]; done)), H', ⟨by first | omega | exact Nat.le_refl _⟩, ⟨by (with_reducible repeat (first | apply Kd.V_alloc | apply Kd.V_drewN | apply Kd.V_drew)); exact HO0.out⟩, ⟨by (with_reducible repeat (first | refine blk_drewN ?_ _ | refine blk_drew ?_ | refine blk_alloc ?_ _)); exact BK198.out⟩, ⟨by repeat (first | (with_reducible first | exact HB.out | apply below_alloc | apply pw_below_drewN | apply below_drew1 | refine below_set ?_ GE198.out) | exact HB.out)⟩⟩
    · rw [if_neg c6] at H
      have c6b0 : decide (a1 < 0) = false := decide_eq_false c6
      clear c6
      (first | rw [c6b0] | (simp only [i64_w, i32_w]; rw [c6b0]) | skip)
      by_cases c7 : a1 ≥ (l0.length : Int)
      · rw [if_pos c7] at H
        have c7b0 : decide ((l0.length : Int) ≤ a1) = true := decide_eq_true c7
        clear c7
        have H' := Aside0.mk H
        clear H
        go_wp2
        go_meet
        case rel => exact ⟨_, (true), (by first | rfl | (simp; done) | (simp [*]; done)), H', ⟨by first | omega | exact Nat.le_refl _⟩, ⟨by (with_reducible repeat (first | apply Kd.V_alloc | apply Kd.V_drewN | apply Kd.V_drew)); exact HO0.out⟩, ⟨by (with_reducible repeat (first | refine blk_drewN ?_ _ | refine blk_drew ?_ | refine blk_alloc ?_ _)); exact BK198.out⟩, ⟨by repeat (first | (with_reducible first | exact HB.out | apply below_alloc | apply pw_below_drewN | apply below_drew1 | refine below_set ?_ GE198.out) | exact HB.out)⟩⟩
      · rw [if_neg c7] at H
        have c7b0 : decide ((l0.length : Int) ≤ a1) = false := decide_eq_false c7
        clear c7
        replace H := Option.bind_eq_some_iff.mp H
        obtain ⟨t199, A80, H⟩ := H
        replace H : (chamberlainref09_Set.j0 k l0 a1 (!t199) a2_0 a2_1 a2_2 a2_3 a2_4 a2_5 a2_6 a2_7 a2_8) = some (r1, r2) := H
        have A8 := Aside0.mk A80
        clear A80
        have H' := Aside0.mk H
        clear H
        have hcz9_0 : w5.cell? ⟨gb198, 0, none⟩ = some (.int .i64 a2_0) := (blk_cell BK198.out 0).trans rfl
        have hcz9_1 : w5.cell? ⟨gb198, 1, none⟩ = some (.int .i64 a2_1) := (blk_cell BK198.out 1).trans rfl
        have hcz9_2 : w5.cell? ⟨gb198, 2, none⟩ = some (.int .u32 a2_2) := (blk_cell BK198.out 2).trans rfl
        have hcz9_3 : w5.cell? ⟨gb198, 3, none⟩ = some (.int .u32 a2_3) := (blk_cell BK198.out 3).trans rfl
        have hcz9_4 : w5.cell? ⟨gb198, 4, none⟩ = some (.int .u32 a2_4) := (blk_cell BK198.out 4).trans rfl
        have hcz9_5 : w5.cell? ⟨gb198, 5, none⟩ = some (.int .u32 a2_5) := (blk_cell BK198.out 5).trans rfl
        have hcz9_6 : w5.cell? ⟨gb198, 6, none⟩ = some (.int .u32 a2_6) := (blk_cell BK198.out 6).trans rfl
        have hcz9_7 : w5.cell? ⟨gb198, 7, none⟩ = some (.int .u32 a2_7) := (blk_cell BK198.out 7).trans rfl
        have hcz9_8 : w5.cell? ⟨gb198, 8, none⟩ = some (.int .i64 a2_8) := (blk_cell BK198.out 8).trans rfl
        have hfz9_0 := blk_frozen BK198.out 0
        have hfz9_1 := blk_frozen BK198.out 1
        have hfz9_2 := blk_frozen BK198.out 2
        have hfz9_3 := blk_frozen BK198.out 3
        have hfz9_4 := blk_frozen BK198.out 4
        have hfz9_5 := blk_frozen BK198.out 5
        have hfz9_6 := blk_frozen BK198.out 6
        have hfz9_7 := blk_frozen BK198.out 7
        have hfz9_8 := blk_frozen BK198.out 8
        go_wp2_with (first | (go_at_call 11; (with_reducible refine (chamberlainref09_May.calls a2_0 a2_1 a2_2 a2_3 a2_4 a2_5 a2_6 a2_7 a2_8 t199 _ A8.out).mono ?_); rintro e w10 ⟨rfl, hb⟩; have n0_ := Aside0.mk (Kd.V_below (by (with_reducible repeat (first | apply Kd.V_alloc | apply Kd.V_drewN | apply Kd.V_drew)); exact HO0.out) hb); have n1_ := Aside0.mk (blk_below (g := gb198) (o := .cells #[.int .i64 a2_0, .int .i64 a2_1, .int .u32 a2_2, .int .u32 a2_3, .int .u32 a2_4, .int .u32 a2_5, .int .u32 a2_6, .int .u32 a2_7, .int .i64 a2_8] 25 (0, 0)) (by (with_reducible repeat (first | refine blk_drewN ?_ _ | refine blk_drew ?_ | refine blk_alloc ?_ _)); exact BK198.out) hb); have n2_ := Aside0.mk (below_step (by repeat (first | (with_reducible first | exact HB.out | apply below_alloc | apply pw_below_drewN | apply below_drew1 | refine below_set ?_ GE198.out) | exact HB.out)) hb); clear HO0; clear BK198; clear HB; have HO0 := n0_; have BK198 := n1_; have HB := n2_; clear n0_ n1_ n2_; (try clear hb); (try clear hb2); (try clear hk); (try clear hi)))
        go_meet
        case rel => exact ⟨_, (!t199), (by first | rfl | (simp; done) | (simp [*]; done)), H', ⟨by first | omega | exact Nat.le_refl _⟩, ⟨by (with_reducible repeat (first | apply Kd.V_alloc | apply Kd.V_drewN | apply Kd.V_drew)); exact HO0.out⟩, ⟨by (with_reducible repeat (first | refine blk_drewN ?_ _ | refine blk_drew ?_ | refine blk_alloc ?_ _)); exact BK198.out⟩, ⟨by repeat (first | (with_reducible first | exact HB.out | apply below_alloc | apply pw_below_drewN | apply below_drew1 | refine below_set ?_ GE198.out) | exact HB.out)⟩⟩
  case rest =>
    clear HC4
    try clear c1
    try clear p2
    try clear c6
    try clear c6b0
    try clear c7
    try clear c7b0
    try clear hcz9_0
    try clear hcz9_1
    try clear hcz9_2
    try clear hcz9_3
    try clear hcz9_4
    try clear hcz9_5
    try clear hcz9_6
    try clear hcz9_7
    try clear hcz9_8
    try clear hfz9_0
    try clear hfz9_1
    try clear hfz9_2
    try clear hfz9_3
    try clear hfz9_4
    try clear hfz9_5
    try clear hfz9_6
    try clear hfz9_7
    try clear hfz9_8
    obtain ⟨kq, x22_3, rfl, HA, HJ3, HO_0, BK198, HB⟩ := hcut
    cases kq with
    | zero => exact absurd HA.out (by simp [chamberlainref09_Set.j0])
    | succ kj3 =>
      have H := HA.out
      clear HA
      simp only [chamberlainref09_Set.j0] at H
      by_cases c11 : x22_3 = true
      · subst c11
        have H1 : (some (l0, 1)) = some (r1, r2) := by rw [if_pos rfl] at H; exact H
        clear H
        have H := H1
        clear H1
        simp only [Option.some.injEq, Prod.mk.injEq] at H
        obtain ⟨rfl, rfl⟩ := H
        go_wp2
        go_ret2
        exact ⟨_, by first | rfl | (simp [errW_none, errW_some] <;> rfl) | (simp [*, errW_none, errW_some] <;> rfl), by (with_reducible repeat (first | apply Kd.V_alloc | apply Kd.V_drewN | apply Kd.V_drew)); exact Kd.V_mono HO_0.out (fun _ hk => hk.1), by repeat (first | (with_reducible first | exact HB.out | apply below_alloc | apply pw_below_drewN | apply below_drew1 | refine below_set ?_ GE198.out) | exact HB.out)⟩
      · replace c11 := Bool.eq_false_iff.mpr c11
        subst c11
        have H1 : (chamberlainref09_Set.l0 kj3 l0 a1 ([] : List (S25)) 0 a2_0 a2_1 a2_2 a2_3 a2_4 a2_5 a2_6 a2_7 a2_8) = some (r1, r2) := by rw [if_neg (show ¬ (false = true) by decide)] at H; exact H
        clear H
        have H := H1
        clear H1
        have H' := Aside0.mk H
        clear H
        go_wp2
        go_loopg [8, 9] kj3 (fun kq v8 v9 w' => ∃ (x8_2 : List (S25)) (x9_2 : Int), v9 = .int .i64 x9_2 ∧ Aside0 (chamberlainref09_Set.l0 kq l0 a1 x8_2 x9_2 a2_0 a2_1 a2_2 a2_3 a2_4 a2_5 a2_6 a2_7 a2_8 = some (r1, r2)) ∧ Aside0 (kq ≤ kj3) ∧ Aside0 (Kd.V k25 25 w' w.heap.size (fun k_ => (P0_ k_ ∨ w.heap.size ≤ k_) ∧ some k_ ≠ (v8 : Value).ownBlock ∧ k_ ≠ gb198) (.slice A0 l0.length c0) l0) ∧ Aside0 (Kd.R k25 25 w' w.heap.size (fun k_ => (w.heap.size ≤ k_) ∧ k_ ≠ gb198) v8 x8_2) ∧ Aside0 (w'.heap[gb198]? = some (.cells #[.int .i64 a2_0, .int .i64 a2_1, .int .u32 a2_2, .int .u32 a2_3, .int .u32 a2_4, .int .u32 a2_5, .int .u32 a2_6, .int .u32 a2_7, .int .i64 a2_8] 25 (0, 0))) ∧ Aside0 (Below w.heap.size w w'))
        case atStart => exact ⟨(([] : List (S25))), (0), (by first | rfl | (simp; done) | (simp [*]; done)), H', ⟨Nat.le_refl _⟩, ⟨by (with_reducible repeat (first | apply Kd.V_alloc | apply Kd.V_drewN | apply Kd.V_drew)); exact Kd.V_mono HO_0.out (fun _ hk => ⟨hk.1, ⟨(by simp [Value.ownBlock]), hk.2⟩⟩)⟩, ⟨by first | exact Kd.R_nil _ _ _ _ _ | exact Kd.N_nil _ _ _ _ _ | exact Kd.V_nil _ _ _ _ _ | exact Kd.Q_nil _ _ _ _ _ | exact Kd.S_nil _ _ _ _ _⟩, ⟨by (with_reducible repeat (first | refine blk_drewN ?_ _ | refine blk_drew ?_ | refine blk_alloc ?_ _)); exact BK198.out⟩, ⟨by repeat (first | (with_reducible first | exact HB.out | apply below_alloc | apply pw_below_drewN | apply below_drew1 | refine below_set ?_ GE198.out) | exact HB.out)⟩⟩
        case round =>
          clear H'
          try clear c1
          try clear p2
          try clear c6
          try clear c6b0
          try clear c7
          try clear c7b0
          try clear c11
          try clear hcz9_0
          try clear hcz9_1
          try clear hcz9_2
          try clear hcz9_3
          try clear hcz9_4
          try clear hcz9_5
          try clear hcz9_6
          try clear hcz9_7
          try clear hcz9_8
          try clear hfz9_0
          try clear hfz9_1
          try clear hfz9_2
          try clear hfz9_3
          try clear hfz9_4
          try clear hfz9_5
          try clear hfz9_6
          try clear hfz9_7
          try clear hfz9_8
          try clear p2
          obtain ⟨x8_2, x9_2, rfl, HA, HK2, HO_0, HO_8, BK198, HB⟩ := hrel
          cases gk with
          | zero => exact absurd HA.out (by simp [chamberlainref09_Set.l0])
          | succ k2 =>
            have H := HA.out
            clear HA
            simp only [chamberlainref09_Set.l0] at H
            by_cases c12 : x9_2 < (l0.length : Int)
            · rw [if_pos c12] at H
              have c12b0 : decide (x9_2 < (l0.length : Int)) = true := decide_eq_true c12
              clear c12
              by_cases c13 : x9_2 = a1
              · rw [if_pos c13] at H
                have c13b0 : (x9_2 == a1) = true := beq_iff_eq.mpr c13
                have c13b1 : (x9_2 != a1) = false := bne_eq_false_iff_eq.mpr c13
                clear c13
                by_cases c14 : x8_2.length < 2932031007402
                · rw [if_pos c14] at H
                  have LMc14 := Aside0.mk c14
                  clear c14
                  obtain ⟨y200, hy200⟩ : ∃ y_ : List (S25), y_ = (x8_2 ++ [(⟨a2_0, a2_1, a2_2, a2_3, a2_4, a2_5, a2_6, a2_7, a2_8⟩ : S25)]) := ⟨_, rfl⟩
                  replace H : (chamberlainref09_Set.l0 k2 l0 a1 y200 (wrap64 (x9_2 + 1)) a2_0 a2_1 a2_2 a2_3 a2_4 a2_5 a2_6 a2_7 a2_8) = some (r1, r2) := by first | (rw [hy200]; with_reducible exact H) | (have H2_ := (Option.bind_some _ _).symm.trans H; rw [hy200]; with_reducible exact H2_) | (have H2_ := (Option.bind_some _ _).symm.trans H; with_reducible exact H2_) | with_reducible exact H | (rw [hy200]; exact H) | exact H
                  have Ny200 := Aside0.mk hy200
                  clear hy200
                  have H' := Aside0.mk H
                  clear H
                  have hcz15_0 : wr.cell? ⟨gb198, 0, none⟩ = some (.int .i64 a2_0) := (blk_cell BK198.out 0).trans rfl
                  have hcz15_1 : wr.cell? ⟨gb198, 1, none⟩ = some (.int .i64 a2_1) := (blk_cell BK198.out 1).trans rfl
                  have hcz15_2 : wr.cell? ⟨gb198, 2, none⟩ = some (.int .u32 a2_2) := (blk_cell BK198.out 2).trans rfl
                  have hcz15_3 : wr.cell? ⟨gb198, 3, none⟩ = some (.int .u32 a2_3) := (blk_cell BK198.out 3).trans rfl
                  have hcz15_4 : wr.cell? ⟨gb198, 4, none⟩ = some (.int .u32 a2_4) := (blk_cell BK198.out 4).trans rfl
                  have hcz15_5 : wr.cell? ⟨gb198, 5, none⟩ = some (.int .u32 a2_5) := (blk_cell BK198.out 5).trans rfl
                  have hcz15_6 : wr.cell? ⟨gb198, 6, none⟩ = some (.int .u32 a2_6) := (blk_cell BK198.out 6).trans rfl
                  have hcz15_7 : wr.cell? ⟨gb198, 7, none⟩ = some (.int .u32 a2_7) := (blk_cell BK198.out 7).trans rfl
                  have hcz15_8 : wr.cell? ⟨gb198, 8, none⟩ = some (.int .i64 a2_8) := (blk_cell BK198.out 8).trans rfl
                  have hfz15_0 := blk_frozen BK198.out 0
                  have hfz15_1 := blk_frozen BK198.out 1
                  have hfz15_2 := blk_frozen BK198.out 2
                  have hfz15_3 := blk_frozen BK198.out 3
                  have hfz15_4 := blk_frozen BK198.out 4
                  have hfz15_5 := blk_frozen BK198.out 5
                  have hfz15_6 := blk_frozen BK198.out 6
                  have hfz15_7 := blk_frozen BK198.out 7
                  have hfz15_8 := blk_frozen BK198.out 8
                  go_wp2_with (first | ((with_reducible refine gate_builtin (b := .append) (xs := #[.tmp 33, .tmp 35]) rfl ?_); (try (refine gate_guard (by rfl) ?_; dsimp only)); at_builtin; refine Kd.R_append k25 (w0 := w) w.heap.size rfl (.tmp 33) (.tmp 35) 22 25 (.agg #[(.int .i64 0), (.int .i64 0), (.int .u32 0), (.int .u32 0), (.int .u32 0), (.int .u32 0), (.int .u32 0), (.int .u32 0), (.int .i64 0)]) 48 rfl Try.underlying22 info25 rfl (by decide) (by omega) u8 x8_2 (⟨a2_0, a2_1, a2_2, a2_3, a2_4, a2_5, a2_6, a2_7, a2_8⟩ : S25) [.int .i64 a2_0, .int .i64 a2_1, .int .u32 a2_2, .int .u32 a2_3, .int .u32 a2_4, .int .u32 a2_5, .int .u32 a2_6, .int .u32 a2_7, .int .i64 a2_8] (fun k_ => (w.heap.size ≤ k_) ∧ k_ ≠ gb198) (fun _ => False) rfl rfl ?aP (fun _ hk => hk.elim) ?aF ?aO ?aB ?aS ?aL ?_; (case aP => exact k25_mkM _ _ _ (⟨a2_0, a2_1, a2_2, a2_3, a2_4, a2_5, a2_6, a2_7, a2_8⟩ : S25)); (case aB => exact (by repeat (first | (with_reducible first | exact HB.out | apply below_alloc | apply pw_below_drewN | apply below_drew1 | refine below_set ?_ GE198.out) | exact HB.out))); (case aF => exact (fun k_ hk => ⟨(Nat.le_trans (below_size (by repeat (first | (with_reducible first | exact HB.out | apply below_alloc | apply pw_below_drewN | apply below_drew1 | refine below_set ?_ GE198.out) | exact HB.out))) hk), Kd.freshB (g := gb198) (o := .cells #[.int .i64 a2_0, .int .i64 a2_1, .int .u32 a2_2, .int .u32 a2_3, .int .u32 a2_4, .int .u32 a2_5, .int .u32 a2_6, .int .u32 a2_7, .int .i64 a2_8] 25 (0, 0)) (by (with_reducible repeat (first | refine blk_drewN ?_ _ | refine blk_drew ?_ | refine blk_alloc ?_ _)); exact BK198.out) k_ hk⟩)); (case aO => exact (by (with_reducible repeat (first | apply Kd.R_alloc | apply Kd.R_drewN | apply Kd.R_drew)); exact HO_8.out)); (case aS => exact (below_size (by repeat (first | (with_reducible first | exact HB.out | apply below_alloc | apply pw_below_drewN | apply below_drew1 | refine below_set ?_ GE198.out) | exact HB.out)))); (case aL => have := LMc14.out; omega); intro v201 w16 ho hb hg hat; rw [← Ny200.out] at ho; have n0_ := Aside0.mk (Kd.V_afterv (ok := (fun k_ => (P0_ k_ ∨ w.heap.size ≤ k_) ∧ k_ ≠ gb198)) (by (with_reducible repeat (first | apply Kd.V_alloc | apply Kd.V_drewN | apply Kd.V_drew)); exact Kd.V_mono HO_0.out (fun _ hk => ⟨⟨hk.1, hk.2.2⟩, hk.2.1⟩)) hg hat); have n1_ := Aside0.mk (blk_grown (g := gb198) (o := .cells #[.int .i64 a2_0, .int .i64 a2_1, .int .u32 a2_2, .int .u32 a2_3, .int .u32 a2_4, .int .u32 a2_5, .int .u32 a2_6, .int .u32 a2_7, .int .i64 a2_8] 25 (0, 0)) (by (with_reducible repeat (first | refine blk_drewN ?_ _ | refine blk_drew ?_ | refine blk_alloc ?_ _)); exact BK198.out) hg (Kd.R_away HO_8.out (fun _ hk => hk.2))); have n2_ := Aside0.mk (hb); have n3_ := Aside0.mk (ho); clear HO_0; clear BK198; clear HB; clear HO_8; have HO_0 := n0_; have BK198 := n1_; have HB := n2_; have HO202 := n3_; clear n0_ n1_ n2_ n3_; clear ho hb hg hat))
                  go_roundg k2
                  case measure => have := HJ3.out; have := HK2.out; omega
                  case rel => exact ⟨(y200), (wrap64 (x9_2 + 1)), (by first | rfl | (simp; done) | (simp [*]; done)), H', ⟨by have := HJ3.out; have := HK2.out; omega⟩, ⟨by (with_reducible repeat (first | apply Kd.V_alloc | apply Kd.V_drewN | apply Kd.V_drew)); exact Kd.V_mono HO_0.out (fun _ hk => ⟨hk.1.1, ⟨hk.2, hk.1.2⟩⟩)⟩, ⟨by (with_reducible repeat (first | apply Kd.R_alloc | apply Kd.R_drewN | apply Kd.R_drew)); exact HO202.out⟩, ⟨by (with_reducible repeat (first | refine blk_drewN ?_ _ | refine blk_drew ?_ | refine blk_alloc ?_ _)); exact BK198.out⟩, ⟨by repeat (first | (with_reducible first | exact HB.out | apply below_alloc | apply pw_below_drewN | apply below_drew1 | refine below_set ?_ GE198.out) | exact HB.out)⟩⟩
                · rw [if_neg c14] at H
                  exact absurd H (by simp)
              · rw [if_neg c13] at H
                have c13b0 : (x9_2 == a1) = false := beq_eq_false_iff_ne.mpr c13
                have c13b1 : (x9_2 != a1) = true := bne_iff_ne.mpr c13
                by_cases c17 : 0 ≤ x9_2
                · rw [if_pos c17] at H
                  have c17b0 : decide (0 ≤ x9_2) = true := decide_eq_true c17
                  clear c17
                  by_cases c18 : x8_2.length < 2932031007402
                  · rw [if_pos c18] at H
                    have LMc18 := Aside0.mk c18
                    clear c18
                    obtain ⟨y204, hy204⟩ : ∃ y_ : List (S25), y_ = (x8_2 ++ [(⟨(rd_T25 l0 x9_2).f0, (rd_T25 l0 x9_2).f1, (rd_T25 l0 x9_2).f2, (rd_T25 l0 x9_2).f3, (rd_T25 l0 x9_2).f4, (rd_T25 l0 x9_2).f5, (rd_T25 l0 x9_2).f6, (rd_T25 l0 x9_2).f7, (rd_T25 l0 x9_2).f8⟩ : S25)]) := ⟨_, rfl⟩
                    replace H : (chamberlainref09_Set.l0 k2 l0 a1 y204 (wrap64 (x9_2 + 1)) a2_0 a2_1 a2_2 a2_3 a2_4 a2_5 a2_6 a2_7 a2_8) = some (r1, r2) := by first | (rw [hy204]; with_reducible exact H) | (have H2_ := (Option.bind_some _ _).symm.trans H; rw [hy204]; with_reducible exact H2_) | (have H2_ := (Option.bind_some _ _).symm.trans H; with_reducible exact H2_) | with_reducible exact H | (rw [hy204]; exact H) | exact H
                    have Ny204 := Aside0.mk hy204
                    clear hy204
                    have H' := Aside0.mk H
                    clear H
                    have p203 : 0 ≤ (x9_2 : Int) := of_decide_eq_true (by first | (with_reducible assumption) | assumption)
                    have q203 : x9_2 < (l0.length : Int) := of_decide_eq_true (by first | (with_reducible assumption) | assumption)
                    obtain ⟨ad203, e203, hx203_0, hx203_1, hx203_2, hx203_3, hx203_4, hx203_5, hx203_6, hx203_7, hx203_8⟩ := at_T25 (Kd.V_reads' HO_0.out).2.2 x9_2 p203 q203
                    cases e203
                    replace p203 := eq_true p203
                    replace q203 := eq_true q203
                    go_wp2_with (first | ((with_reducible refine gate_builtin (b := .append) (xs := #[.tmp 37, .tmp 42]) rfl ?_); (try (refine gate_guard (by rfl) ?_; dsimp only)); at_builtin; refine Kd.R_append k25 (w0 := w) w.heap.size rfl (.tmp 37) (.tmp 42) 22 25 (.agg #[(.int .i64 0), (.int .i64 0), (.int .u32 0), (.int .u32 0), (.int .u32 0), (.int .u32 0), (.int .u32 0), (.int .u32 0), (.int .i64 0)]) 48 rfl Try.underlying22 info25 rfl (by decide) (by omega) u8 x8_2 (⟨(rd_T25 l0 x9_2).f0, (rd_T25 l0 x9_2).f1, (rd_T25 l0 x9_2).f2, (rd_T25 l0 x9_2).f3, (rd_T25 l0 x9_2).f4, (rd_T25 l0 x9_2).f5, (rd_T25 l0 x9_2).f6, (rd_T25 l0 x9_2).f7, (rd_T25 l0 x9_2).f8⟩ : S25) [.int .i64 ((rd_T25 l0 x9_2).f0), .int .i64 ((rd_T25 l0 x9_2).f1), .int .u32 ((rd_T25 l0 x9_2).f2), .int .u32 ((rd_T25 l0 x9_2).f3), .int .u32 ((rd_T25 l0 x9_2).f4), .int .u32 ((rd_T25 l0 x9_2).f5), .int .u32 ((rd_T25 l0 x9_2).f6), .int .u32 ((rd_T25 l0 x9_2).f7), .int .i64 ((rd_T25 l0 x9_2).f8)] (fun k_ => (w.heap.size ≤ k_) ∧ k_ ≠ gb198) (fun _ => False) rfl rfl ?aP (fun _ hk => hk.elim) ?aF ?aO ?aB ?aS ?aL ?_; (case aP => exact k25_mkM _ _ _ (⟨(rd_T25 l0 x9_2).f0, (rd_T25 l0 x9_2).f1, (rd_T25 l0 x9_2).f2, (rd_T25 l0 x9_2).f3, (rd_T25 l0 x9_2).f4, (rd_T25 l0 x9_2).f5, (rd_T25 l0 x9_2).f6, (rd_T25 l0 x9_2).f7, (rd_T25 l0 x9_2).f8⟩ : S25)); (case aB => exact (by repeat (first | (with_reducible first | exact HB.out | apply below_alloc | apply pw_below_drewN | apply below_drew1 | refine below_set ?_ GE198.out) | exact HB.out))); (case aF => exact (fun k_ hk => ⟨(Nat.le_trans (below_size (by repeat (first | (with_reducible first | exact HB.out | apply below_alloc | apply pw_below_drewN | apply below_drew1 | refine below_set ?_ GE198.out) | exact HB.out))) hk), Kd.freshB (g := gb198) (o := .cells #[.int .i64 a2_0, .int .i64 a2_1, .int .u32 a2_2, .int .u32 a2_3, .int .u32 a2_4, .int .u32 a2_5, .int .u32 a2_6, .int .u32 a2_7, .int .i64 a2_8] 25 (0, 0)) (by (with_reducible repeat (first | refine blk_drewN ?_ _ | refine blk_drew ?_ | refine blk_alloc ?_ _)); exact BK198.out) k_ hk⟩)); (case aO => exact (by (with_reducible repeat (first | apply Kd.R_alloc | apply Kd.R_drewN | apply Kd.R_drew)); exact HO_8.out)); (case aS => exact (below_size (by repeat (first | (with_reducible first | exact HB.out | apply below_alloc | apply pw_below_drewN | apply below_drew1 | refine below_set ?_ GE198.out) | exact HB.out)))); (case aL => have := LMc18.out; omega); intro v205 w19 ho hb hg hat; rw [← Ny204.out] at ho; have n0_ := Aside0.mk (Kd.V_afterv (ok := (fun k_ => (P0_ k_ ∨ w.heap.size ≤ k_) ∧ k_ ≠ gb198)) (by (with_reducible repeat (first | apply Kd.V_alloc | apply Kd.V_drewN | apply Kd.V_drew)); exact Kd.V_mono HO_0.out (fun _ hk => ⟨⟨hk.1, hk.2.2⟩, hk.2.1⟩)) hg hat); have n1_ := Aside0.mk (blk_grown (g := gb198) (o := .cells #[.int .i64 a2_0, .int .i64 a2_1, .int .u32 a2_2, .int .u32 a2_3, .int .u32 a2_4, .int .u32 a2_5, .int .u32 a2_6, .int .u32 a2_7, .int .i64 a2_8] 25 (0, 0)) (by (with_reducible repeat (first | refine blk_drewN ?_ _ | refine blk_drew ?_ | refine blk_alloc ?_ _)); exact BK198.out) hg (Kd.R_away HO_8.out (fun _ hk => hk.2))); have n2_ := Aside0.mk (hb); have n3_ := Aside0.mk (ho); clear HO_0; clear BK198; clear HB; clear HO_8; have HO_0 := n0_; have BK198 := n1_; have HB := n2_; have HO206 := n3_; clear n0_ n1_ n2_ n3_; clear ho hb hg hat))
                    go_roundg k2
                    case measure => have := HJ3.out; have := HK2.out; omega
                    case rel => exact ⟨(y204), (wrap64 (x9_2 + 1)), (by first | rfl | (simp; done) | (simp [*]; done)), H', ⟨by have := HJ3.out; have := HK2.out; omega⟩, ⟨by (with_reducible repeat (first | apply Kd.V_alloc | apply Kd.V_drewN | apply Kd.V_drew)); exact Kd.V_mono HO_0.out (fun _ hk => ⟨hk.1.1, ⟨hk.2, hk.1.2⟩⟩)⟩, ⟨by (with_reducible repeat (first | apply Kd.R_alloc | apply Kd.R_drewN | apply Kd.R_drew)); exact HO206.out⟩, ⟨by (with_reducible repeat (first | refine blk_drewN ?_ _ | refine blk_drew ?_ | refine blk_alloc ?_ _)); exact BK198.out⟩, ⟨by repeat (first | (with_reducible first | exact HB.out | apply below_alloc | apply pw_below_drewN | apply below_drew1 | refine below_set ?_ GE198.out) | exact HB.out)⟩⟩
                  · rw [if_neg c18] at H
                    exact absurd H (by simp)
                · rw [if_neg c17] at H
                  exact absurd H (by simp)
            · rw [if_neg c12] at H
              have c12b0 : decide (x9_2 < (l0.length : Int)) = false := decide_eq_false c12
              clear c12
              simp only [Option.some.injEq, Prod.mk.injEq] at H
              obtain ⟨rfl, rfl⟩ := H
              go_wp2
              go_ret2
              exact ⟨_, by first | rfl | (simp [errW_none, errW_some] <;> rfl) | (simp [*, errW_none, errW_some] <;> rfl), Kd.V_mono (Kd.R_V (by (with_reducible repeat (first | apply Kd.R_alloc | apply Kd.R_drewN | apply Kd.R_drew)); exact Kd.R_mono HO_8.out (fun _ hk => hk.1))) (fun k_ hk => by first | exact ⟨(.inr (hk.1)), hk.2⟩ | exact (.inr (hk))), by repeat (first | (with_reducible first | exact HB.out | apply below_alloc | apply pw_below_drewN | apply below_drew1 | refine below_set ?_ GE198.out) | exact HB.out)⟩

/-! ### chamberlainref09_Next: function 17 -/
def chamberlainref09_Next.l0 : Nat → List (S25) → Int → Int → Int → Int → Int → Option (Int × Bool)
  | 0, _, _, _, _, _, _ => none
  | k + 1, x0, x1, x2, x3, x4, x12 => if x12 < (x0.length : Int) then (if x12 ≥ x1 then (if 0 ≤ x12 then (if ((rd_T25 x0 x12).f0) = x2 then (if ((rd_T25 x0 x12).f1) = x3 then (if ((rd_T25 x0 x12).f8) = x4 then (some (x12, true)) else (chamberlainref09_Next.l0 k x0 x1 x2 x3 x4 (wrap64 (x12 + 1)))) else (chamberlainref09_Next.l0 k x0 x1 x2 x3 x4 (wrap64 (x12 + 1)))) else (chamberlainref09_Next.l0 k x0 x1 x2 x3 x4 (wrap64 (x12 + 1)))) else (none)) else (chamberlainref09_Next.l0 k x0 x1 x2 x3 x4 (wrap64 (x12 + 1)))) else (some (0, false))
def chamberlainref09_Next.f (k : Nat) (l0 : List (S25)) (a1 : Int) (a2 : Int) (a3 : Int) (a4 : Int) : Option (Int × Bool) := chamberlainref09_Next.l0 k l0 a1 a2 a3 a4 0
theorem chamberlainref09_Next.mono_l : ∀ k, (∀ y0 y1 y2 y3 y4 y5, LeO (chamberlainref09_Next.l0 k y0 y1 y2 y3 y4 y5) (chamberlainref09_Next.l0 (k + 1) y0 y1 y2 y3 y4 y5))
  | 0 => fun _ _ _ _ _ _ r h => by simp [chamberlainref09_Next.l0] at h
  | k + 1 => by
    have ih0 := chamberlainref09_Next.mono_l k
    · intro y0 y1 y2 y3 y4 y5
      unfold chamberlainref09_Next.l0
      repeat' first
      | (with_reducible exact ih0 _ _ _ _ _ _)
      | (with_reducible exact LeO.refl _)
      | (with_reducible exact LeO.none _)
      | (with_reducible refine LeO.ite ?_ ?_)
      | (with_reducible refine LeO.bind ?_ (fun _ => ?_))
      | exact ih0 _ _ _ _ _ _
      | exact LeO.none _
      | refine LeO.ite ?_ ?_
      | refine LeO.bind ?_ (fun _ => ?_)
theorem chamberlainref09_Next.mono : ∀ a0 a1 a2 a3 a4 k, LeO (chamberlainref09_Next.f k a0 a1 a2 a3 a4) (chamberlainref09_Next.f (k + 1) a0 a1 a2 a3 a4) := by
  intro a0 a1 a2 a3 a4 k
  have ih0 := chamberlainref09_Next.mono_l k
  unfold chamberlainref09_Next.f
  repeat' first
      | (with_reducible exact ih0 _ _ _ _ _ _)
      | (with_reducible exact LeO.refl _)
      | (with_reducible exact LeO.none _)
      | (with_reducible refine LeO.ite ?_ ?_)
      | (with_reducible refine LeO.bind ?_ (fun _ => ?_))
      | exact ih0 _ _ _ _ _ _
      | exact LeO.none _
      | refine LeO.ite ?_ ?_
      | refine LeO.bind ?_ (fun _ => ?_)
set_option maxHeartbeats 8000000 in
set_option maxRecDepth 100000 in
theorem chamberlainref09_Next.calls (k : Nat) (A0 : Option Addr) (c0 : Nat) (l0 : List (S25)) (a1 : Int) (a2 : Int) (a3 : Int) (a4 : Int) (r1 : Int) (r2 : Bool) (w : World) (hr0 : Kd.C k25 w A0 l0.length l0) (hc0 : l0.length ≤ c0) (h : chamberlainref09_Next.f k l0 a1 a2 a3 a4 = some (r1, r2)) :
    Calls Try.prog 17 #[.slice A0 l0.length c0, .int .i64 a1, .int .i64 a2, .int .i64 a3, .int .i64 a4] w fun e w' => e = .returned (.tuple #[.int .i64 r1, .bool r2]) ∧ Drawn0 w w' := by
  have HR0 := Aside0.mk hr0
  have HC0 := Aside0.mk hc0
  clear hr0 hc0
  have H : (chamberlainref09_Next.l0 k l0 a1 a2 a3 a4 0) = some (r1, r2) := h
  clear h
  have H' := Aside0.mk H
  clear H
  go_enter Try.func17, Try.ntmps17
  go_wp2
  go_loopg [12] k (fun kq v12 w' => ∃ (x12_1 : Int), v12 = .int .i64 x12_1 ∧ Aside0 (chamberlainref09_Next.l0 kq l0 a1 a2 a3 a4 x12_1 = some (r1, r2)) ∧ Aside0 (kq ≤ k) ∧ Drawn0 w w')
  case atStart => exact ⟨(0), (by first | rfl | (simp; done) | (simp [*]; done)), H', ⟨Nat.le_refl _⟩, by repeat (first | exact Drawn0.refl _ | apply Drawn0.step)⟩
  case round =>
    clear H'
    try clear c1
    try clear p2
    obtain ⟨x12_1, rfl, HA, HK1, ⟨m1, rfl⟩⟩ := hrel
    cases gk with
    | zero => exact absurd HA.out (by simp [chamberlainref09_Next.l0])
    | succ k1 =>
      have H := HA.out
      clear HA
      simp only [chamberlainref09_Next.l0] at H
      by_cases c6 : x12_1 < (l0.length : Int)
      · rw [if_pos c6] at H
        have c6b0 : decide (x12_1 < (l0.length : Int)) = true := decide_eq_true c6
        clear c6
        by_cases c7 : x12_1 ≥ a1
        · rw [if_pos c7] at H
          have c7b0 : decide (a1 ≤ x12_1) = true := decide_eq_true c7
          clear c7
          by_cases c8 : 0 ≤ x12_1
          · rw [if_pos c8] at H
            have c8b0 : decide (0 ≤ x12_1) = true := decide_eq_true c8
            clear c8
            by_cases c9 : ((rd_T25 l0 x12_1).f0) = a2
            · rw [if_pos c9] at H
              have c9b0 : (((rd_T25 l0 x12_1).f0) == a2) = true := beq_iff_eq.mpr c9
              have c9b1 : (((rd_T25 l0 x12_1).f0) != a2) = false := bne_eq_false_iff_eq.mpr c9
              clear c9
              by_cases c10 : ((rd_T25 l0 x12_1).f1) = a3
              · rw [if_pos c10] at H
                have c10b0 : (((rd_T25 l0 x12_1).f1) == a3) = true := beq_iff_eq.mpr c10
                have c10b1 : (((rd_T25 l0 x12_1).f1) != a3) = false := bne_eq_false_iff_eq.mpr c10
                clear c10
                by_cases c11 : ((rd_T25 l0 x12_1).f8) = a4
                · rw [if_pos c11] at H
                  have c11b0 : (((rd_T25 l0 x12_1).f8) == a4) = true := beq_iff_eq.mpr c11
                  have c11b1 : (((rd_T25 l0 x12_1).f8) != a4) = false := bne_eq_false_iff_eq.mpr c11
                  clear c11
                  simp only [Option.some.injEq, Prod.mk.injEq] at H
                  obtain ⟨rfl, rfl⟩ := H
                  have p207 : 0 ≤ (x12_1 : Int) := of_decide_eq_true (by first | (with_reducible assumption) | assumption)
                  have q207 : x12_1 < (l0.length : Int) := of_decide_eq_true (by first | (with_reducible assumption) | assumption)
                  obtain ⟨ad207, e207, hx207_0, hx207_1, hx207_2, hx207_3, hx207_4, hx207_5, hx207_6, hx207_7, hx207_8⟩ := at_T25 HR0.out x12_1 p207 q207
                  cases e207
                  replace p207 := eq_true p207
                  replace q207 := eq_true q207
                  have p208 : 0 ≤ (x12_1 : Int) := of_decide_eq_true (by first | (with_reducible assumption) | assumption)
                  have q208 : x12_1 < (l0.length : Int) := of_decide_eq_true (by first | (with_reducible assumption) | assumption)
                  obtain ⟨ad208, e208, hx208_0, hx208_1, hx208_2, hx208_3, hx208_4, hx208_5, hx208_6, hx208_7, hx208_8⟩ := at_T25 HR0.out x12_1 p208 q208
                  obtain rfl : ad207 = ad208 := (by injection e208)
                  replace p208 := eq_true p208
                  replace q208 := eq_true q208
                  have p209 : 0 ≤ (x12_1 : Int) := of_decide_eq_true (by first | (with_reducible assumption) | assumption)
                  have q209 : x12_1 < (l0.length : Int) := of_decide_eq_true (by first | (with_reducible assumption) | assumption)
                  obtain ⟨ad209, e209, hx209_0, hx209_1, hx209_2, hx209_3, hx209_4, hx209_5, hx209_6, hx209_7, hx209_8⟩ := at_T25 HR0.out x12_1 p209 q209
                  obtain rfl : ad207 = ad209 := (by injection e209)
                  replace p209 := eq_true p209
                  replace q209 := eq_true q209
                  go_wp2
                  go_ret2
                  exact ⟨by first | rfl | (simp; done) | (simp [*]; done), by repeat (first | exact Drawn0.refl _ | apply Drawn0.step)⟩
                · rw [if_neg c11] at H
                  have c11b0 : (((rd_T25 l0 x12_1).f8) == a4) = false := beq_eq_false_iff_ne.mpr c11
                  have c11b1 : (((rd_T25 l0 x12_1).f8) != a4) = true := bne_iff_ne.mpr c11
                  have H' := Aside0.mk H
                  clear H
                  have p207 : 0 ≤ (x12_1 : Int) := of_decide_eq_true (by first | (with_reducible assumption) | assumption)
                  have q207 : x12_1 < (l0.length : Int) := of_decide_eq_true (by first | (with_reducible assumption) | assumption)
                  obtain ⟨ad207, e207, hx207_0, hx207_1, hx207_2, hx207_3, hx207_4, hx207_5, hx207_6, hx207_7, hx207_8⟩ := at_T25 HR0.out x12_1 p207 q207
                  cases e207
                  replace p207 := eq_true p207
                  replace q207 := eq_true q207
                  have p208 : 0 ≤ (x12_1 : Int) := of_decide_eq_true (by first | (with_reducible assumption) | assumption)
                  have q208 : x12_1 < (l0.length : Int) := of_decide_eq_true (by first | (with_reducible assumption) | assumption)
                  obtain ⟨ad208, e208, hx208_0, hx208_1, hx208_2, hx208_3, hx208_4, hx208_5, hx208_6, hx208_7, hx208_8⟩ := at_T25 HR0.out x12_1 p208 q208
                  obtain rfl : ad207 = ad208 := (by injection e208)
                  replace p208 := eq_true p208
                  replace q208 := eq_true q208
                  have p209 : 0 ≤ (x12_1 : Int) := of_decide_eq_true (by first | (with_reducible assumption) | assumption)
                  have q209 : x12_1 < (l0.length : Int) := of_decide_eq_true (by first | (with_reducible assumption) | assumption)
                  obtain ⟨ad209, e209, hx209_0, hx209_1, hx209_2, hx209_3, hx209_4, hx209_5, hx209_6, hx209_7, hx209_8⟩ := at_T25 HR0.out x12_1 p209 q209
                  obtain rfl : ad207 = ad209 := (by injection e209)
                  replace p209 := eq_true p209
                  replace q209 := eq_true q209
                  go_wp2
                  go_roundg k1
                  case measure => have := HK1.out; omega
                  case rel => exact ⟨(wrap64 (x12_1 + 1)), (by first | rfl | (simp; done) | (simp [*]; done)), H', ⟨by have := HK1.out; omega⟩, by repeat (first | exact Drawn0.refl _ | apply Drawn0.step)⟩
              · rw [if_neg c10] at H
                have c10b0 : (((rd_T25 l0 x12_1).f1) == a3) = false := beq_eq_false_iff_ne.mpr c10
                have c10b1 : (((rd_T25 l0 x12_1).f1) != a3) = true := bne_iff_ne.mpr c10
                have H' := Aside0.mk H
                clear H
                have p207 : 0 ≤ (x12_1 : Int) := of_decide_eq_true (by first | (with_reducible assumption) | assumption)
                have q207 : x12_1 < (l0.length : Int) := of_decide_eq_true (by first | (with_reducible assumption) | assumption)
                obtain ⟨ad207, e207, hx207_0, hx207_1, hx207_2, hx207_3, hx207_4, hx207_5, hx207_6, hx207_7, hx207_8⟩ := at_T25 HR0.out x12_1 p207 q207
                cases e207
                replace p207 := eq_true p207
                replace q207 := eq_true q207
                have p208 : 0 ≤ (x12_1 : Int) := of_decide_eq_true (by first | (with_reducible assumption) | assumption)
                have q208 : x12_1 < (l0.length : Int) := of_decide_eq_true (by first | (with_reducible assumption) | assumption)
                obtain ⟨ad208, e208, hx208_0, hx208_1, hx208_2, hx208_3, hx208_4, hx208_5, hx208_6, hx208_7, hx208_8⟩ := at_T25 HR0.out x12_1 p208 q208
                obtain rfl : ad207 = ad208 := (by injection e208)
                replace p208 := eq_true p208
                replace q208 := eq_true q208
                go_wp2
                go_roundg k1
                case measure => have := HK1.out; omega
                case rel => exact ⟨(wrap64 (x12_1 + 1)), (by first | rfl | (simp; done) | (simp [*]; done)), H', ⟨by have := HK1.out; omega⟩, by repeat (first | exact Drawn0.refl _ | apply Drawn0.step)⟩
            · rw [if_neg c9] at H
              have c9b0 : (((rd_T25 l0 x12_1).f0) == a2) = false := beq_eq_false_iff_ne.mpr c9
              have c9b1 : (((rd_T25 l0 x12_1).f0) != a2) = true := bne_iff_ne.mpr c9
              have H' := Aside0.mk H
              clear H
              have p207 : 0 ≤ (x12_1 : Int) := of_decide_eq_true (by first | (with_reducible assumption) | assumption)
              have q207 : x12_1 < (l0.length : Int) := of_decide_eq_true (by first | (with_reducible assumption) | assumption)
              obtain ⟨ad207, e207, hx207_0, hx207_1, hx207_2, hx207_3, hx207_4, hx207_5, hx207_6, hx207_7, hx207_8⟩ := at_T25 HR0.out x12_1 p207 q207
              cases e207
              replace p207 := eq_true p207
              replace q207 := eq_true q207
              go_wp2
              go_roundg k1
              case measure => have := HK1.out; omega
              case rel => exact ⟨(wrap64 (x12_1 + 1)), (by first | rfl | (simp; done) | (simp [*]; done)), H', ⟨by have := HK1.out; omega⟩, by repeat (first | exact Drawn0.refl _ | apply Drawn0.step)⟩
          · rw [if_neg c8] at H
            exact absurd H (by simp)
        · rw [if_neg c7] at H
          have c7b0 : decide (a1 ≤ x12_1) = false := decide_eq_false c7
          clear c7
          have H' := Aside0.mk H
          clear H
          go_wp2
          go_roundg k1
          case measure => have := HK1.out; omega
          case rel => exact ⟨(wrap64 (x12_1 + 1)), (by first | rfl | (simp; done) | (simp [*]; done)), H', ⟨by have := HK1.out; omega⟩, by repeat (first | exact Drawn0.refl _ | apply Drawn0.step)⟩
      · rw [if_neg c6] at H
        have c6b0 : decide (x12_1 < (l0.length : Int)) = false := decide_eq_false c6
        clear c6
        simp only [Option.some.injEq, Prod.mk.injEq] at H
        obtain ⟨rfl, rfl⟩ := H
        go_wp2
        go_ret2
        exact ⟨by first | rfl | (simp; done) | (simp [*]; done), by repeat (first | exact Drawn0.refl _ | apply Drawn0.step)⟩

end Go.Proofs.Ytjhopebkflgcbaa.PRunsDoes
