-- Written for this claim by wip/tools/myprint.py (print.py's forms; proofs of the faked functions by hand).
import Derived.Test.YthlcpbendleihaaPAdvAlonex1
import Derived.Test.YthlcpbendleihaaPAdvAlonex2
import Derived.Test.YthlcpbendleihaaPAdvAlonex3
import Derived.Test.YthlcpbendleihaaPAdvAlonex4
import Derived.Test.YthlcpbendleihaaPAdvAlonex0
import Derived.Test.YthlcpbendleihaaPAdvAlonex5
import Derived.Test.YthlcpbendleihaaPAdvAlonex6
namespace Go.Proofs.Ythlcpbendleihaa.PAdvAlone
open Go.RowKit Go.Proofs.YthlcpbendleihaaW.PrintWords Go.Proofs.YthlcpbendleihaaW.PrintLast Go.Proofs.YthlcpbendleihaaW.PrintMore
attribute [local go_sem] max2_int min2_int max_two min_two max_three min_three max_four min_four   -- for this text's walks alone
set_option linter.unusedVariables false
set_option linter.unusedSimpArgs false

/-! ### box_Open: function 67 -/
def box_Open.f (a0_0 : Int) (l0_1 : List (S92)) (a1 : Int) (a2 : Int) (a3 : Int) : Option (List Int × Bool) := (box_find.f a0_0 l0_1 a3).bind fun bt218 => (if bt218.2.2.2.2 = true then (if bt218.2.1 = a1 then (if bt218.2.2.1 = a2 then ((slices_Clone_uint32_uint32_61.f bt218.2.2.2.1).bind fun t226 => (some (t226, true))) else (some (([] : List Int), false))) else (some (([] : List Int), false))) else (some (([] : List Int), false)))
set_option maxHeartbeats 8000000 in
set_option maxRecDepth 100000 in
theorem box_Open.calls (a0_0 : Int) (A0_1 : Option Addr) (c0_1 : Nat) (l0_1 : List (S92)) (a1 : Int) (a2 : Int) (a3 : Int) (r1 : List Int) (r2 : Bool) (w : World) (hr0_1 : Kd.C k92 w A0_1 l0_1.length l0_1) (hc0_1 : l0_1.length ≤ c0_1) (h : box_Open.f a0_0 l0_1 a1 a2 a3 = some (r1, r2)) :
  Calls Try.prog 67 #[.agg #[.int .i64 a0_0, .slice A0_1 l0_1.length c0_1], .int .u32 a1, .int .u32 a2, .int .u32 a3] w fun e w' => ∃ v0_ : Value, e = .returned (.tuple #[v0_, .bool r2]) ∧ Kd.R (Kd.int .u32) 22 w' w.heap.size (fun _ => True) v0_ r1 ∧ Below w.heap.size w w' := by
 have hu30 := Try.underlying30
 have hu92 := Try.underlying92
 have HR0_1 := Aside0.mk hr0_1
 have HC0_1 := Aside0.mk hc0_1
 clear hr0_1 hc0_1
 have HB := Aside0.mk (Below.refl w.heap.size w)
 have H : ((box_find.f a0_0 l0_1 a3).bind fun bt218 => (if bt218.2.2.2.2 = true then (if bt218.2.1 = a1 then (if bt218.2.2.1 = a2 then ((slices_Clone_uint32_uint32_61.f bt218.2.2.2.1).bind fun t226 => (some (t226, true))) else (some (([] : List Int), false))) else (some (([] : List Int), false))) else (some (([] : List Int), false)))) = some (r1, r2) := h
 clear h
 replace H := Option.bind_eq_some_iff.mp H
 obtain ⟨⟨t218, t219, t220, t221, t224⟩, A50, H⟩ := H
 replace H : (if t224 = true then (if t219 = a1 then (if t220 = a2 then ((slices_Clone_uint32_uint32_61.f t221).bind fun t226 => (some (t226, true))) else (some (([] : List Int), false))) else (some (([] : List Int), false))) else (some (([] : List Int), false))) = some (r1, r2) := H
 have A5 := Aside0.mk A50
 clear A50
 by_cases c6 : t224 = true
 ·
  subst c6
  have H1 : (if t219 = a1 then (if t220 = a2 then ((slices_Clone_uint32_uint32_61.f t221).bind fun t226 => (some (t226, true))) else (some (([] : List Int), false))) else (some (([] : List Int), false))) = some (r1, r2) := by rw [if_pos rfl] at H; exact H
  clear H
  have H := H1
  clear H1
  by_cases c7 : t219 = a1
  ·
   rw [if_pos c7] at H
   have c7b0 : (t219 == a1) = true := beq_iff_eq.mpr c7
   have c7b1 : (t219 != a1) = false := bne_eq_false_iff_eq.mpr c7
   clear c7
   by_cases c8 : t220 = a2
   ·
    rw [if_pos c8] at H
    have c8b0 : (t220 == a2) = true := beq_iff_eq.mpr c8
    have c8b1 : (t220 != a2) = false := bne_eq_false_iff_eq.mpr c8
    clear c8
    replace H := Option.bind_eq_some_iff.mp H
    obtain ⟨t226, A90, H⟩ := H
    replace H : (some (t226, true)) = some (r1, r2) := H
    have A9 := Aside0.mk A90
    clear A90
    simp only [Option.some.injEq, Prod.mk.injEq] at H
    obtain ⟨rfl, rfl⟩ := H
    go_enter Try.func67, Try.ntmps67
    go_wp2_with (first | ((with_reducible refine gate_dst (N := 4) rfl ?_); refine box_event ?hg (N := 4) ?hd (cs := #[.int .i64 a0_0, .slice A0_1 l0_1.length c0_1]) (t := 30) ?hr ?_; (case hd => rfl); (case hg => rfl); (case hr => first | (go_simp; done) | (go_simp; rfl)); intro gb217 hg w10 hbox hb; have n0_ := Aside0.mk (bs_ hb); have n1_ := Aside0.mk (hbox); have n2_ := Aside0.mk ((ge_ hg : w.heap.size ≤ gb217)); have n3_ := Aside0.mk ((ge_ hg : w.heap.size ≤ gb217)); clear HB; have HB := n0_; have BK217 := n1_; have GW217 := n2_; have GE217 := n3_; clear n0_ n1_ n2_ n3_; clear hb hbox hg; have ⟨hcz11_0, hcz11_1⟩ := cz2_ BK217.out; have ⟨hfz11_0, hfz11_1⟩ := fz2_ BK217.out) | ((with_reducible refine gate_callee (f := 75) rfl ?_); refine goesL_ (some 15) rfl rfl Try.func75 (by kernel_rfl) rfl #[.agg #[.int .i64 a0_0, .slice A0_1 l0_1.length c0_1], .int .u32 a3] rfl mD_ ?_; (with_reducible refine (box_find.calls a0_0 (fun k_ => k_ < w.heap.size) _ _ l0_1 a3 t218 t219 t220 t221 true _ ?side1 A5.out).mono ?_); (case side1 => exact Kd.V_mk HC0_1.out (Kd.F_below (Kd.C_F k92_heap HR0_1.out) (by repeat (first | (with_reducible first | exact HB.out | apply below_alloc | apply pw_below_drewN | apply below_drew1 | refine below_set ?_ GE217.out) | exact HB.out)))); rintro e w12 ⟨v222, rfl, ho0, hb⟩; refine ⟨_, rfl, ?_⟩; have n0_ := Aside0.mk (Kd.V_lower (Kd.V_mono (ok' := fun k_ => k_ ≠ gb217) ho0 (fun k_ hk_ => Or.elim hk_ (fun hs_ => fun e_ => Nat.not_le.2 hs_ (by rw [e_]; exact GW217.out)) (fun hn_ => (fb_ BK217.out k_ hn_)))) (below_size (by repeat (first | (with_reducible first | exact HB.out | apply below_alloc | apply pw_below_drewN | apply below_drew1 | refine below_set ?_ GE217.out) | exact HB.out)))); have n1_ := Aside0.mk (bb_ BK217.out hb); have n2_ := Aside0.mk (bs_ hb); clear BK217 HB; have HO223 := n0_; have BK217 := n1_; have HB := n2_; clear n0_ n1_ n2_; (try clear hb); (try clear hb2); (try clear hk); (try clear hi); (try clear ho0)) | ((with_reducible refine gate_dst (N := 10) rfl ?_); refine box_event ?hg (N := 10) ?hd (cs := #[.int .u32 0, .int .u32 0, .int .u32 0, .slice none 0 0]) (t := 92) ?hr ?_; (case hd => rfl); (case hg => rfl); (case hr => first | (go_simp; done) | (go_simp; rfl)); intro gb225 hg w13 hbox hb; have n0_ := Aside0.mk (ve_ HO223.out gb225 hg hb); have n2_ := Aside0.mk (bs_ hb); have n3_ := Aside0.mk (hbox); have n5_ := Aside0.mk ((ge_ hg : w.heap.size ≤ gb225)); have n6_ := Aside0.mk ((by rw [hg]; exact Nat.ne_of_lt (blk_lt (g := gb217) (o := .cells #[.int .i64 a0_0, .slice A0_1 l0_1.length c0_1] 30 (0, 0)) (by (with_reducible repeat (first | refine blk_drewN ?_ _ | refine blk_drew ?_ | refine blk_alloc ?_ _)); exact BK217.out)) : gb217 ≠ gb225)); have n7_ := Aside0.mk ((by rw [hg]; exact Nat.ne_of_gt (blk_lt (g := gb217) (o := .cells #[.int .i64 a0_0, .slice A0_1 l0_1.length c0_1] 30 (0, 0)) (by (with_reducible repeat (first | refine blk_drewN ?_ _ | refine blk_drew ?_ | refine blk_alloc ?_ _)); exact BK217.out)) : gb225 ≠ gb217)); clear HO223 BK217 HB; have HO223 := n0_; have HB := n2_; have BK225 := n3_; have GE225 := n5_; have NB217_225 := n6_; have NB225_217 := n7_; clear n0_ n2_ n3_ n5_ n6_ n7_; clear hb hbox hg; have hnb14 := NB225_217.out; have hnc14 := NB217_225.out; have ⟨hcz15_0, hcz15_1, hcz15_2, hcz15_3⟩ := cz4_ BK225.out; have ⟨hfz15_0, hfz15_1, hfz15_2, hfz15_3⟩ := fz4_ BK225.out; obtain ⟨Ao16, co16, eo16⟩ := Kd.V_slice HO223.out; subst eo16) | ((with_reducible refine gate_callee (f := 61) rfl ?_); refine goesL_ (some 34) rfl rfl Try.func61 (by kernel_rfl) rfl #[.slice Ao16 t221.length co16] rfl mD_ ?_; (with_reducible refine (slices_Clone_uint32_uint32_61.calls _ _ t221 t226 _ ?side1 ?side2 A9.out).mono ?_); (case side1 => refine (Kd.V_reads' (e := 22) (base := w.heap.size) (ok := fun k_ => (k_ ≠ gb217 ∧ k_ ≠ gb225)) (n := t221.length) (c := co16) ?_).2.2; exact (by (with_reducible repeat (first | apply Kd.V_alloc | apply Kd.V_drewN | apply Kd.V_drew)); exact (Kd.V_mono (v4_ (g := gb225) (Kd.V_mono HO223.out (fun k_ hk => (⟨hk, hk.2⟩ : _ ∧ k_ ≠ gb225)))) (fun _ h_ => h_.1)))); (case side2 => exact (Kd.V_reads' HO223.out).2.1); rintro e w17 ⟨v227, rfl, ho0, hb⟩; refine ⟨_, rfl, ?_⟩; have n1_ := Aside0.mk (Kd.R_lower ho0 (below_size (by repeat (first | (with_reducible first | exact HB.out | apply below_alloc | apply pw_below_drewN | apply below_drew1 | refine below_set ?_ GE217.out | refine below_set ?_ GE225.out) | exact HB.out)))); have n4_ := Aside0.mk (bs_ hb); clear HO223 BK225 HB; have HO228 := n1_; have HB := n4_; clear n1_ n4_; (try clear hb); (try clear hb2); (try clear hk); (try clear hi); (try clear ho0)))
    go_ret2
    exact ⟨_, eW_, by (with_reducible repeat (first | apply Kd.R_alloc | apply Kd.R_drewN | apply Kd.R_drew)); exact HO228.out, by repeat (first | (with_reducible first | exact HB.out | apply below_alloc | apply pw_below_drewN | apply below_drew1 | refine below_set ?_ GE217.out | refine below_set ?_ GE225.out) | exact HB.out)⟩
   ·
    rw [if_neg c8] at H
    have c8b0 : (t220 == a2) = false := beq_eq_false_iff_ne.mpr c8
    have c8b1 : (t220 != a2) = true := bne_iff_ne.mpr c8
    simp only [Option.some.injEq, Prod.mk.injEq] at H
    obtain ⟨rfl, rfl⟩ := H
    go_enter Try.func67, Try.ntmps67
    go_wp2_with (first | ((with_reducible refine gate_dst (N := 4) rfl ?_); refine box_event ?hg (N := 4) ?hd (cs := #[.int .i64 a0_0, .slice A0_1 l0_1.length c0_1]) (t := 30) ?hr ?_; (case hd => rfl); (case hg => rfl); (case hr => first | (go_simp; done) | (go_simp; rfl)); intro gb217 hg w18 hbox hb; have n0_ := Aside0.mk (bs_ hb); have n1_ := Aside0.mk (hbox); have n2_ := Aside0.mk ((ge_ hg : w.heap.size ≤ gb217)); have n3_ := Aside0.mk ((ge_ hg : w.heap.size ≤ gb217)); clear HB; have HB := n0_; have BK217 := n1_; have GW217 := n2_; have GE217 := n3_; clear n0_ n1_ n2_ n3_; clear hb hbox hg; have ⟨hcz19_0, hcz19_1⟩ := cz2_ BK217.out; have ⟨hfz19_0, hfz19_1⟩ := fz2_ BK217.out) | ((with_reducible refine gate_callee (f := 75) rfl ?_); refine goesL_ (some 15) rfl rfl Try.func75 (by kernel_rfl) rfl #[.agg #[.int .i64 a0_0, .slice A0_1 l0_1.length c0_1], .int .u32 a3] rfl mD_ ?_; (with_reducible refine (box_find.calls a0_0 (fun k_ => k_ < w.heap.size) _ _ l0_1 a3 t218 t219 t220 t221 true _ ?side1 A5.out).mono ?_); (case side1 => exact Kd.V_mk HC0_1.out (Kd.F_below (Kd.C_F k92_heap HR0_1.out) (by repeat (first | (with_reducible first | exact HB.out | apply below_alloc | apply pw_below_drewN | apply below_drew1 | refine below_set ?_ GE217.out) | exact HB.out)))); rintro e w20 ⟨v222, rfl, ho0, hb⟩; refine ⟨_, rfl, ?_⟩; have n0_ := Aside0.mk (Kd.V_lower (Kd.V_mono (ok' := fun k_ => k_ ≠ gb217) ho0 (fun k_ hk_ => Or.elim hk_ (fun hs_ => fun e_ => Nat.not_le.2 hs_ (by rw [e_]; exact GW217.out)) (fun hn_ => (fb_ BK217.out k_ hn_)))) (below_size (by repeat (first | (with_reducible first | exact HB.out | apply below_alloc | apply pw_below_drewN | apply below_drew1 | refine below_set ?_ GE217.out) | exact HB.out)))); have n1_ := Aside0.mk (bb_ BK217.out hb); have n2_ := Aside0.mk (bs_ hb); clear BK217 HB; have HO223 := n0_; have BK217 := n1_; have HB := n2_; clear n0_ n1_ n2_; (try clear hb); (try clear hb2); (try clear hk); (try clear hi); (try clear ho0)) | ((with_reducible refine gate_dst (N := 10) rfl ?_); refine box_event ?hg (N := 10) ?hd (cs := #[.int .u32 0, .int .u32 0, .int .u32 0, .slice none 0 0]) (t := 92) ?hr ?_; (case hd => rfl); (case hg => rfl); (case hr => first | (go_simp; done) | (go_simp; rfl)); intro gb225 hg w21 hbox hb; have n0_ := Aside0.mk (ve_ HO223.out gb225 hg hb); have n2_ := Aside0.mk (bs_ hb); have n3_ := Aside0.mk (hbox); have n5_ := Aside0.mk ((ge_ hg : w.heap.size ≤ gb225)); have n6_ := Aside0.mk ((by rw [hg]; exact Nat.ne_of_lt (blk_lt (g := gb217) (o := .cells #[.int .i64 a0_0, .slice A0_1 l0_1.length c0_1] 30 (0, 0)) (by (with_reducible repeat (first | refine blk_drewN ?_ _ | refine blk_drew ?_ | refine blk_alloc ?_ _)); exact BK217.out)) : gb217 ≠ gb225)); have n7_ := Aside0.mk ((by rw [hg]; exact Nat.ne_of_gt (blk_lt (g := gb217) (o := .cells #[.int .i64 a0_0, .slice A0_1 l0_1.length c0_1] 30 (0, 0)) (by (with_reducible repeat (first | refine blk_drewN ?_ _ | refine blk_drew ?_ | refine blk_alloc ?_ _)); exact BK217.out)) : gb225 ≠ gb217)); clear HO223 BK217 HB; have HO223 := n0_; have HB := n2_; have BK225 := n3_; have GE225 := n5_; have NB217_225 := n6_; have NB225_217 := n7_; clear n0_ n2_ n3_ n5_ n6_ n7_; clear hb hbox hg; have hnb22 := NB225_217.out; have hnc22 := NB217_225.out; have ⟨hcz23_0, hcz23_1, hcz23_2, hcz23_3⟩ := cz4_ BK225.out; have ⟨hfz23_0, hfz23_1, hfz23_2, hfz23_3⟩ := fz4_ BK225.out; obtain ⟨Ao24, co24, eo24⟩ := Kd.V_slice HO223.out; subst eo24))
    go_ret2
    exact ⟨_, eW_, by first | exact Kd.R_nil _ _ _ _ _ | exact Kd.N_nil _ _ _ _ _ | exact Kd.V_nil _ _ _ _ _ | exact Kd.Q_nil _ _ _ _ _ | exact Kd.S_nil _ _ _ _ _, by repeat (first | (with_reducible first | exact HB.out | apply below_alloc | apply pw_below_drewN | apply below_drew1 | refine below_set ?_ GE217.out | refine below_set ?_ GE225.out) | exact HB.out)⟩
  ·
   rw [if_neg c7] at H
   have c7b0 : (t219 == a1) = false := beq_eq_false_iff_ne.mpr c7
   have c7b1 : (t219 != a1) = true := bne_iff_ne.mpr c7
   simp only [Option.some.injEq, Prod.mk.injEq] at H
   obtain ⟨rfl, rfl⟩ := H
   go_enter Try.func67, Try.ntmps67
   go_wp2_with (first | ((with_reducible refine gate_dst (N := 4) rfl ?_); refine box_event ?hg (N := 4) ?hd (cs := #[.int .i64 a0_0, .slice A0_1 l0_1.length c0_1]) (t := 30) ?hr ?_; (case hd => rfl); (case hg => rfl); (case hr => first | (go_simp; done) | (go_simp; rfl)); intro gb217 hg w25 hbox hb; have n0_ := Aside0.mk (bs_ hb); have n1_ := Aside0.mk (hbox); have n2_ := Aside0.mk ((ge_ hg : w.heap.size ≤ gb217)); have n3_ := Aside0.mk ((ge_ hg : w.heap.size ≤ gb217)); clear HB; have HB := n0_; have BK217 := n1_; have GW217 := n2_; have GE217 := n3_; clear n0_ n1_ n2_ n3_; clear hb hbox hg; have ⟨hcz26_0, hcz26_1⟩ := cz2_ BK217.out; have ⟨hfz26_0, hfz26_1⟩ := fz2_ BK217.out) | ((with_reducible refine gate_callee (f := 75) rfl ?_); refine goesL_ (some 15) rfl rfl Try.func75 (by kernel_rfl) rfl #[.agg #[.int .i64 a0_0, .slice A0_1 l0_1.length c0_1], .int .u32 a3] rfl mD_ ?_; (with_reducible refine (box_find.calls a0_0 (fun k_ => k_ < w.heap.size) _ _ l0_1 a3 t218 t219 t220 t221 true _ ?side1 A5.out).mono ?_); (case side1 => exact Kd.V_mk HC0_1.out (Kd.F_below (Kd.C_F k92_heap HR0_1.out) (by repeat (first | (with_reducible first | exact HB.out | apply below_alloc | apply pw_below_drewN | apply below_drew1 | refine below_set ?_ GE217.out) | exact HB.out)))); rintro e w27 ⟨v222, rfl, ho0, hb⟩; refine ⟨_, rfl, ?_⟩; have n0_ := Aside0.mk (Kd.V_lower (Kd.V_mono (ok' := fun k_ => k_ ≠ gb217) ho0 (fun k_ hk_ => Or.elim hk_ (fun hs_ => fun e_ => Nat.not_le.2 hs_ (by rw [e_]; exact GW217.out)) (fun hn_ => (fb_ BK217.out k_ hn_)))) (below_size (by repeat (first | (with_reducible first | exact HB.out | apply below_alloc | apply pw_below_drewN | apply below_drew1 | refine below_set ?_ GE217.out) | exact HB.out)))); have n1_ := Aside0.mk (bb_ BK217.out hb); have n2_ := Aside0.mk (bs_ hb); clear BK217 HB; have HO223 := n0_; have BK217 := n1_; have HB := n2_; clear n0_ n1_ n2_; (try clear hb); (try clear hb2); (try clear hk); (try clear hi); (try clear ho0)) | ((with_reducible refine gate_dst (N := 10) rfl ?_); refine box_event ?hg (N := 10) ?hd (cs := #[.int .u32 0, .int .u32 0, .int .u32 0, .slice none 0 0]) (t := 92) ?hr ?_; (case hd => rfl); (case hg => rfl); (case hr => first | (go_simp; done) | (go_simp; rfl)); intro gb225 hg w28 hbox hb; have n0_ := Aside0.mk (ve_ HO223.out gb225 hg hb); have n2_ := Aside0.mk (bs_ hb); have n3_ := Aside0.mk (hbox); have n5_ := Aside0.mk ((ge_ hg : w.heap.size ≤ gb225)); have n6_ := Aside0.mk ((by rw [hg]; exact Nat.ne_of_lt (blk_lt (g := gb217) (o := .cells #[.int .i64 a0_0, .slice A0_1 l0_1.length c0_1] 30 (0, 0)) (by (with_reducible repeat (first | refine blk_drewN ?_ _ | refine blk_drew ?_ | refine blk_alloc ?_ _)); exact BK217.out)) : gb217 ≠ gb225)); have n7_ := Aside0.mk ((by rw [hg]; exact Nat.ne_of_gt (blk_lt (g := gb217) (o := .cells #[.int .i64 a0_0, .slice A0_1 l0_1.length c0_1] 30 (0, 0)) (by (with_reducible repeat (first | refine blk_drewN ?_ _ | refine blk_drew ?_ | refine blk_alloc ?_ _)); exact BK217.out)) : gb225 ≠ gb217)); clear HO223 BK217 HB; have HO223 := n0_; have HB := n2_; have BK225 := n3_; have GE225 := n5_; have NB217_225 := n6_; have NB225_217 := n7_; clear n0_ n2_ n3_ n5_ n6_ n7_; clear hb hbox hg; have hnb29 := NB225_217.out; have hnc29 := NB217_225.out; have ⟨hcz30_0, hcz30_1, hcz30_2, hcz30_3⟩ := cz4_ BK225.out; have ⟨hfz30_0, hfz30_1, hfz30_2, hfz30_3⟩ := fz4_ BK225.out; obtain ⟨Ao31, co31, eo31⟩ := Kd.V_slice HO223.out; subst eo31))
   go_ret2
   exact ⟨_, eW_, by first | exact Kd.R_nil _ _ _ _ _ | exact Kd.N_nil _ _ _ _ _ | exact Kd.V_nil _ _ _ _ _ | exact Kd.Q_nil _ _ _ _ _ | exact Kd.S_nil _ _ _ _ _, by repeat (first | (with_reducible first | exact HB.out | apply below_alloc | apply pw_below_drewN | apply below_drew1 | refine below_set ?_ GE217.out | refine below_set ?_ GE225.out) | exact HB.out)⟩
 ·
  replace c6 := Bool.eq_false_iff.mpr c6
  subst c6
  have H1 : (some (([] : List Int), false)) = some (r1, r2) := by rw [if_neg (show ¬ (false = true) by decide)] at H; exact H
  clear H
  have H := H1
  clear H1
  simp only [Option.some.injEq, Prod.mk.injEq] at H
  obtain ⟨rfl, rfl⟩ := H
  go_enter Try.func67, Try.ntmps67
  go_wp2_with (first | ((with_reducible refine gate_dst (N := 4) rfl ?_); refine box_event ?hg (N := 4) ?hd (cs := #[.int .i64 a0_0, .slice A0_1 l0_1.length c0_1]) (t := 30) ?hr ?_; (case hd => rfl); (case hg => rfl); (case hr => first | (go_simp; done) | (go_simp; rfl)); intro gb217 hg w32 hbox hb; have n0_ := Aside0.mk (bs_ hb); have n1_ := Aside0.mk (hbox); have n2_ := Aside0.mk ((ge_ hg : w.heap.size ≤ gb217)); have n3_ := Aside0.mk ((ge_ hg : w.heap.size ≤ gb217)); clear HB; have HB := n0_; have BK217 := n1_; have GW217 := n2_; have GE217 := n3_; clear n0_ n1_ n2_ n3_; clear hb hbox hg; have ⟨hcz33_0, hcz33_1⟩ := cz2_ BK217.out; have ⟨hfz33_0, hfz33_1⟩ := fz2_ BK217.out) | ((with_reducible refine gate_callee (f := 75) rfl ?_); refine goesL_ (some 15) rfl rfl Try.func75 (by kernel_rfl) rfl #[.agg #[.int .i64 a0_0, .slice A0_1 l0_1.length c0_1], .int .u32 a3] rfl mD_ ?_; (with_reducible refine (box_find.calls a0_0 (fun k_ => k_ < w.heap.size) _ _ l0_1 a3 t218 t219 t220 t221 false _ ?side1 A5.out).mono ?_); (case side1 => exact Kd.V_mk HC0_1.out (Kd.F_below (Kd.C_F k92_heap HR0_1.out) (by repeat (first | (with_reducible first | exact HB.out | apply below_alloc | apply pw_below_drewN | apply below_drew1 | refine below_set ?_ GE217.out) | exact HB.out)))); rintro e w34 ⟨v222, rfl, ho0, hb⟩; refine ⟨_, rfl, ?_⟩; have n0_ := Aside0.mk (Kd.V_lower (Kd.V_mono (ok' := fun k_ => k_ ≠ gb217) ho0 (fun k_ hk_ => Or.elim hk_ (fun hs_ => fun e_ => Nat.not_le.2 hs_ (by rw [e_]; exact GW217.out)) (fun hn_ => (fb_ BK217.out k_ hn_)))) (below_size (by repeat (first | (with_reducible first | exact HB.out | apply below_alloc | apply pw_below_drewN | apply below_drew1 | refine below_set ?_ GE217.out) | exact HB.out)))); have n1_ := Aside0.mk (bb_ BK217.out hb); have n2_ := Aside0.mk (bs_ hb); clear BK217 HB; have HO223 := n0_; have BK217 := n1_; have HB := n2_; clear n0_ n1_ n2_; (try clear hb); (try clear hb2); (try clear hk); (try clear hi); (try clear ho0)) | ((with_reducible refine gate_dst (N := 10) rfl ?_); refine box_event ?hg (N := 10) ?hd (cs := #[.int .u32 0, .int .u32 0, .int .u32 0, .slice none 0 0]) (t := 92) ?hr ?_; (case hd => rfl); (case hg => rfl); (case hr => first | (go_simp; done) | (go_simp; rfl)); intro gb225 hg w35 hbox hb; have n0_ := Aside0.mk (ve_ HO223.out gb225 hg hb); have n2_ := Aside0.mk (bs_ hb); have n3_ := Aside0.mk (hbox); have n5_ := Aside0.mk ((ge_ hg : w.heap.size ≤ gb225)); have n6_ := Aside0.mk ((by rw [hg]; exact Nat.ne_of_lt (blk_lt (g := gb217) (o := .cells #[.int .i64 a0_0, .slice A0_1 l0_1.length c0_1] 30 (0, 0)) (by (with_reducible repeat (first | refine blk_drewN ?_ _ | refine blk_drew ?_ | refine blk_alloc ?_ _)); exact BK217.out)) : gb217 ≠ gb225)); have n7_ := Aside0.mk ((by rw [hg]; exact Nat.ne_of_gt (blk_lt (g := gb217) (o := .cells #[.int .i64 a0_0, .slice A0_1 l0_1.length c0_1] 30 (0, 0)) (by (with_reducible repeat (first | refine blk_drewN ?_ _ | refine blk_drew ?_ | refine blk_alloc ?_ _)); exact BK217.out)) : gb225 ≠ gb217)); clear HO223 BK217 HB; have HO223 := n0_; have HB := n2_; have BK225 := n3_; have GE225 := n5_; have NB217_225 := n6_; have NB225_217 := n7_; clear n0_ n2_ n3_ n5_ n6_ n7_; clear hb hbox hg; have hnb36 := NB225_217.out; have hnc36 := NB217_225.out; have ⟨hcz37_0, hcz37_1, hcz37_2, hcz37_3⟩ := cz4_ BK225.out; have ⟨hfz37_0, hfz37_1, hfz37_2, hfz37_3⟩ := fz4_ BK225.out; obtain ⟨Ao38, co38, eo38⟩ := Kd.V_slice HO223.out; subst eo38))
  go_ret2
  exact ⟨_, eW_, by first | exact Kd.R_nil _ _ _ _ _ | exact Kd.N_nil _ _ _ _ _ | exact Kd.V_nil _ _ _ _ _ | exact Kd.Q_nil _ _ _ _ _ | exact Kd.S_nil _ _ _ _ _, by repeat (first | (with_reducible first | exact HB.out | apply below_alloc | apply pw_below_drewN | apply below_drew1 | refine below_set ?_ GE217.out | refine below_set ?_ GE225.out) | exact HB.out)⟩

/-! ### people_in: function 85 -/
def people_in.f (l0 : List (S55)) (a1 : Int) : Option (Bool) := some (decide ((IntKind.u64.wrap (a1)) < (IntKind.u64.wrap ((l0.length : Int)))))
set_option maxHeartbeats 8000000 in
set_option maxRecDepth 100000 in
theorem people_in.calls (A0 : Option Addr) (c0 : Nat) (l0 : List (S55)) (a1 : Int) (r : Bool) (w : World) (hr0 : Kd.C k55 w A0 l0.length l0) (hc0 : l0.length ≤ c0) (h : people_in.f l0 a1 = some r) :
  Calls Try.prog 85 #[.slice A0 l0.length c0, .int .u32 a1] w fun e w' => e = .returned (.bool r) ∧ Drawn0 w w' := by
 have HR0 := Aside0.mk hr0
 have HC0 := Aside0.mk hc0
 clear hr0 hc0
 have H : (some (decide ((IntKind.u64.wrap (a1)) < (IntKind.u64.wrap ((l0.length : Int)))))) = some r := h
 clear h
 obtain rfl := Option.some.inj H
 go_enter Try.func85, Try.ntmps85
 go_wp2
 go_ret
 exact ⟨sD_, dR_⟩

/-! ### people_Get: function 78 -/
def people_Get.f (l0 : List (S55)) (a1 : Int) : Option (Int × Int × Int × List Int × (List (S113)) × Bool × Bool) := (people_in.f l0 a1).bind fun t230 => (if t230 = true then (if 0 ≤ a1 then (if a1 < (l0.length : Int) then (some ((rd_T55 l0 a1).f0, (rd_T55 l0 a1).f1, (rd_T55 l0 a1).f2, (rd_T55 l0 a1).f3, (rd_T55 l0 a1).f4, (rd_T55 l0 a1).f5, true)) else (none)) else (none)) else (some (0, 0, 0, ([] : List Int), ([] : List (S113)), false, false)))
set_option maxHeartbeats 8000000 in
set_option maxRecDepth 100000 in
theorem people_Get.calls (P0_ : Nat → Prop) (A0 : Option Addr) (c0 : Nat) (l0 : List (S55)) (a1 : Int) (r1 : Int) (r2 : Int) (r3 : Int) (r4 : List Int) (r5 : List (S113)) (r6 : Bool) (r7 : Bool) (w : World) (hs0 : Kd.V k55 55 w w.heap.size (fun k_ => P0_ k_) (.slice A0 l0.length c0) l0) (h : people_Get.f l0 a1 = some (r1, r2, r3, r4, r5, r6, r7)) :
  Calls Try.prog 78 #[.slice A0 l0.length c0, .int .u32 a1] w fun e w' => ∃ v3_ v4_ : Value, e = .returned (.tuple #[.agg #[.int .u32 r1, .int .u32 r2, .int .u32 r3, v3_, v4_, .bool r6], .bool r7]) ∧ Kd.V (Kd.int .u32) 22 w' w.heap.size (fun k_ => (P0_ k_ ∨ w.heap.size ≤ k_)) v3_ r4 ∧ Kd.V k113 113 w' w.heap.size (fun k_ => (P0_ k_ ∨ w.heap.size ≤ k_)) v4_ r5 ∧ Below w.heap.size w w' := by
 have hu55 := Try.underlying55
 have HO0 := Aside0.mk (show Kd.V k55 55 w w.heap.size (fun k_ => (P0_ k_ ∨ w.heap.size ≤ k_)) (.slice A0 l0.length c0) l0 from Kd.V_mono hs0 (fun k_ hk => .inl hk))
 have HB := Aside0.mk (Below.refl w.heap.size w)
 have H : ((people_in.f l0 a1).bind fun t230 => (if t230 = true then (if 0 ≤ a1 then (if a1 < (l0.length : Int) then (some ((rd_T55 l0 a1).f0, (rd_T55 l0 a1).f1, (rd_T55 l0 a1).f2, (rd_T55 l0 a1).f3, (rd_T55 l0 a1).f4, (rd_T55 l0 a1).f5, true)) else (none)) else (none)) else (some (0, 0, 0, ([] : List Int), ([] : List (S113)), false, false)))) = some (r1, r2, r3, r4, r5, r6, r7) := h
 clear h
 replace H := Option.bind_eq_some_iff.mp H
 obtain ⟨t230, A30, H⟩ := H
 replace H : (if t230 = true then (if 0 ≤ a1 then (if a1 < (l0.length : Int) then (some ((rd_T55 l0 a1).f0, (rd_T55 l0 a1).f1, (rd_T55 l0 a1).f2, (rd_T55 l0 a1).f3, (rd_T55 l0 a1).f4, (rd_T55 l0 a1).f5, true)) else (none)) else (none)) else (some (0, 0, 0, ([] : List Int), ([] : List (S113)), false, false))) = some (r1, r2, r3, r4, r5, r6, r7) := H
 have A3 := Aside0.mk A30
 clear A30
 by_cases c4 : t230 = true
 ·
  subst c4
  have H1 : (if 0 ≤ a1 then (if a1 < (l0.length : Int) then (some ((rd_T55 l0 a1).f0, (rd_T55 l0 a1).f1, (rd_T55 l0 a1).f2, (rd_T55 l0 a1).f3, (rd_T55 l0 a1).f4, (rd_T55 l0 a1).f5, true)) else (none)) else (none)) = some (r1, r2, r3, r4, r5, r6, r7) := by rw [if_pos rfl] at H; exact H
  clear H
  have H := H1
  clear H1
  by_cases c5 : 0 ≤ a1
  ·
   rw [if_pos c5] at H
   have c5b0 : decide (0 ≤ a1) = true := decide_eq_true c5
   clear c5
   by_cases c6 : a1 < (l0.length : Int)
   ·
    rw [if_pos c6] at H
    have c6b0 : decide (a1 < (l0.length : Int)) = true := decide_eq_true c6
    clear c6
    simp only [Option.some.injEq, Prod.mk.injEq] at H
    obtain ⟨rfl, rfl, rfl, rfl, rfl, rfl, rfl⟩ := H
    go_enter Try.func78, Try.ntmps78
    go_wp2_with (first | ((with_reducible refine gate_dst (N := 4) rfl ?_); refine box_event ?hg (N := 4) ?hd (cs := #[.int .u32 0, .int .u32 0, .int .u32 0, .slice none 0 0, .slice none 0 0, .bool false]) (t := 55) ?hr ?_; (case hd => rfl); (case hg => rfl); (case hr => first | (go_simp; done) | (go_simp; rfl)); intro gb229 hg w7 hbox hb; have n0_ := Aside0.mk (ve_ HO0.out gb229 hg hb); have n1_ := Aside0.mk (bs_ hb); have n2_ := Aside0.mk (hbox); have n4_ := Aside0.mk ((ge_ hg : w.heap.size ≤ gb229)); clear HO0 HB; have HO0 := n0_; have HB := n1_; have BK229 := n2_; have GE229 := n4_; clear n0_ n1_ n2_ n4_; clear hb hbox hg) | ((with_reducible refine gate_callee (f := 85) rfl ?_); refine goesL_ (some 8) rfl rfl Try.func85 (by kernel_rfl) rfl #[.slice A0 l0.length c0, .int .u32 a1] rfl mD_ ?_; (with_reducible refine (people_in.calls _ _ l0 a1 true _ ?side1 ?side2 A3.out).mono ?_); (case side1 => repeat (first | exact (Kd.V_reads' HO0.out).2.2 | (with_reducible refine Kd.C_alloc ?_ _) | (with_reducible refine Kd.C_drewN ?_ _) | (with_reducible refine Kd.C_drew ?_))); (case side2 => exact (Kd.V_reads' HO0.out).2.1); rintro e w' ⟨rfl, ⟨nd, rfl⟩⟩; refine ⟨_, rfl, ?_⟩; (try (rw [drewN_self w7]; generalize hq_ : World.drewN w7 _ = w7; have n0_ : Aside0 (Kd.V k55 55 w7 w.heap.size (fun k_ => (P0_ k_ ∨ w.heap.size ≤ k_) ∧ k_ ≠ gb229) (.slice A0 l0.length c0) l0) := ⟨by rw [← hq_]; exact (by (with_reducible repeat (first | apply Kd.V_alloc | apply Kd.V_drewN | apply Kd.V_drew)); exact HO0.out)⟩; have n1_ : Aside0 (w7.heap[gb229]? = some (.cells #[.int .u32 0, .int .u32 0, .int .u32 0, .slice none 0 0, .slice none 0 0, .bool false] 55 (0, 0))) := ⟨by rw [← hq_]; exact (by (with_reducible repeat (first | refine blk_drewN ?_ _ | refine blk_drew ?_ | refine blk_alloc ?_ _)); exact BK229.out)⟩; have n2_ : Aside0 (Below w.heap.size w w7) := ⟨by rw [← hq_]; exact (by repeat (first | (with_reducible first | exact HB.out | apply below_alloc | apply pw_below_drewN | apply below_drew1 | refine below_set ?_ GE229.out) | exact HB.out))⟩; clear HO0 BK229 HB hq_; have HO0 := n0_; have BK229 := n1_; have HB := n2_; clear n0_ n1_ n2_)); have p231 : 0 ≤ (a1 : Int) := of_decide_eq_true aS_; have q231 : a1 < (l0.length : Int) := of_decide_eq_true aS_; obtain ⟨ad231, A231_3, c231_3, A231_4, c231_4, e231, hx231_0, hx231_1, hx231_2, hx231_3, hx231_4, hx231_5, hl231_3, hi231_3, hl231_4, hi231_4⟩ := at_T55 (Kd.V_reads' HO0.out).2.2 a1 p231 q231; cases e231; obtain ⟨ce231, hce231, hMe231, hcc231⟩ := Kd.V_get HO0.out z55 a1 p231 (by first | exact q231 | exact of_decide_eq_true aS_ | (have e_ := (Kd.V_reads' HO0.out).1; omega)); obtain ⟨ua231_3, uc231_3, ua231_4, uc231_4, rfl, ul231_3, ge231_3, ul231_4, ge231_4⟩ := k55_openF hMe231; have hv231_3 := hcc231 3 _ rfl; rw [add_field _ _ 3 (by omega)] at hv231_3; replace hv231_3 := Option.some.inj (hv231_3.symm.trans hx231_3); injection hv231_3 with hva_ hvn_ hvc_; rw [hva_] at ge231_3; rw [hvc_] at ul231_3; have HL231_3 := Aside0.mk (show Kd.V (Kd.int .u32) 22 _ w.heap.size _ _ ((rd_T55 l0 a1).f3) from Kd.V_mk ul231_3 ge231_3); clear hva_ hvn_ hvc_ ge231_3 ul231_3; have hv231_4 := hcc231 4 _ rfl; rw [add_field _ _ 4 (by omega)] at hv231_4; replace hv231_4 := Option.some.inj (hv231_4.symm.trans hx231_4); injection hv231_4 with hva_ hvn_ hvc_; rw [hva_] at ge231_4; rw [hvc_] at ul231_4; have HL231_4 := Aside0.mk (show Kd.V k113 113 _ w.heap.size _ _ ((rd_T55 l0 a1).f4) from Kd.V_mk ul231_4 ge231_4); clear hva_ hvn_ hvc_ ge231_4 ul231_4; clear hcc231 hce231; have HR231_3 := Aside0.mk hi231_3; have HC231_3 := Aside0.mk hl231_3; clear hi231_3 hl231_3; have HR231_4 := Aside0.mk hi231_4; have HC231_4 := Aside0.mk hl231_4; clear hi231_4 hl231_4; replace p231 := eq_true p231; replace q231 := eq_true q231; have ⟨hcz8_0, hcz8_1, hcz8_2, hcz8_3, hcz8_4, hcz8_5⟩ := cz6_ BK229.out; have ⟨hfz8_0, hfz8_1, hfz8_2, hfz8_3, hfz8_4, hfz8_5⟩ := fz6_ BK229.out))
    refine bodyPost_ret (results_ct rfl _ _ gb229 55 #[.int .u32 ((rd_T55 l0 a1).f0), .int .u32 ((rd_T55 l0 a1).f1), .int .u32 ((rd_T55 l0 a1).f2), .slice A231_3 ((rd_T55 l0 a1).f3).length c231_3, .slice A231_4 ((rd_T55 l0 a1).f4).length c231_4, .bool ((rd_T55 l0 a1).f5)] (0, 0) _ rfl (bp6_ BK229.out) Try.underlying55 rfl (by kernel_rfl)) rfl ?_
    exact ⟨_, _, eW_, by (with_reducible repeat (first | apply Kd.V_alloc | apply Kd.V_drewN | apply Kd.V_drew)); exact Kd.V_mono (v6_ (g := gb229) (Kd.V_mono HL231_3.out (fun k_ hk => (⟨hk, hk.2⟩ : _ ∧ k_ ≠ gb229)))) (fun _ hk => hk.1.1), by (with_reducible repeat (first | apply Kd.V_alloc | apply Kd.V_drewN | apply Kd.V_drew)); exact Kd.V_mono (v6_ (g := gb229) (Kd.V_mono HL231_4.out (fun k_ hk => (⟨hk, hk.2⟩ : _ ∧ k_ ≠ gb229)))) (fun _ hk => hk.1.1), by repeat (first | (with_reducible first | exact HB.out | apply below_alloc | apply pw_below_drewN | apply below_drew1 | refine below_set ?_ GE229.out) | exact HB.out)⟩
   ·
    rw [if_neg c6] at H
    exact absurd H (by simp)
  ·
   rw [if_neg c5] at H
   exact absurd H (by simp)
 ·
  replace c4 := Bool.eq_false_iff.mpr c4
  subst c4
  have H1 : (some (0, 0, 0, ([] : List Int), ([] : List (S113)), false, false)) = some (r1, r2, r3, r4, r5, r6, r7) := by rw [if_neg (show ¬ (false = true) by decide)] at H; exact H
  clear H
  have H := H1
  clear H1
  simp only [Option.some.injEq, Prod.mk.injEq] at H
  obtain ⟨rfl, rfl, rfl, rfl, rfl, rfl, rfl⟩ := H
  go_enter Try.func78, Try.ntmps78
  go_wp2_with (first | ((with_reducible refine gate_dst (N := 4) rfl ?_); refine box_event ?hg (N := 4) ?hd (cs := #[.int .u32 0, .int .u32 0, .int .u32 0, .slice none 0 0, .slice none 0 0, .bool false]) (t := 55) ?hr ?_; (case hd => rfl); (case hg => rfl); (case hr => first | (go_simp; done) | (go_simp; rfl)); intro gb229 hg w9 hbox hb; have n0_ := Aside0.mk (ve_ HO0.out gb229 hg hb); have n1_ := Aside0.mk (bs_ hb); have n2_ := Aside0.mk (hbox); have n4_ := Aside0.mk ((ge_ hg : w.heap.size ≤ gb229)); clear HO0 HB; have HO0 := n0_; have HB := n1_; have BK229 := n2_; have GE229 := n4_; clear n0_ n1_ n2_ n4_; clear hb hbox hg) | ((with_reducible refine gate_callee (f := 85) rfl ?_); refine goesL_ (some 8) rfl rfl Try.func85 (by kernel_rfl) rfl #[.slice A0 l0.length c0, .int .u32 a1] rfl mD_ ?_; (with_reducible refine (people_in.calls _ _ l0 a1 false _ ?side1 ?side2 A3.out).mono ?_); (case side1 => repeat (first | exact (Kd.V_reads' HO0.out).2.2 | (with_reducible refine Kd.C_alloc ?_ _) | (with_reducible refine Kd.C_drewN ?_ _) | (with_reducible refine Kd.C_drew ?_))); (case side2 => exact (Kd.V_reads' HO0.out).2.1); rintro e w' ⟨rfl, ⟨nd, rfl⟩⟩; refine ⟨_, rfl, ?_⟩; (try (rw [drewN_self w9]; generalize hq_ : World.drewN w9 _ = w9; have n1_ : Aside0 (w9.heap[gb229]? = some (.cells #[.int .u32 0, .int .u32 0, .int .u32 0, .slice none 0 0, .slice none 0 0, .bool false] 55 (0, 0))) := ⟨by rw [← hq_]; exact (by (with_reducible repeat (first | refine blk_drewN ?_ _ | refine blk_drew ?_ | refine blk_alloc ?_ _)); exact BK229.out)⟩; have n2_ : Aside0 (Below w.heap.size w w9) := ⟨by rw [← hq_]; exact (by repeat (first | (with_reducible first | exact HB.out | apply below_alloc | apply pw_below_drewN | apply below_drew1 | refine below_set ?_ GE229.out) | exact HB.out))⟩; clear HO0 BK229 HB hq_; have BK229 := n1_; have HB := n2_; clear n1_ n2_)); have ⟨hcz10_0, hcz10_1, hcz10_2, hcz10_3, hcz10_4, hcz10_5⟩ := cz6_ BK229.out; have ⟨hfz10_0, hfz10_1, hfz10_2, hfz10_3, hfz10_4, hfz10_5⟩ := fz6_ BK229.out))
  refine bodyPost_ret (results_ct rfl _ _ gb229 55 #[.int .u32 0, .int .u32 0, .int .u32 0, .slice none 0 0, .slice none 0 0, .bool false] (0, 0) _ rfl (bp6_ BK229.out) Try.underlying55 rfl (by kernel_rfl)) rfl ?_
  exact ⟨_, _, eW_, (Kd.V_nil _ _ _ _ _), (Kd.V_nil _ _ _ _ _), by repeat (first | (with_reducible first | exact HB.out | apply below_alloc | apply pw_below_drewN | apply below_drew1 | refine below_set ?_ GE229.out) | exact HB.out)⟩

/-! ### api_Person: function 86 -/
def api_Person.f (l0 : List (S55)) : Option ((List (S55))) := (some (([] : List (S55)) : List (S55))).bind fun y232 => (if y232.length + l0.length < 1954687338268 then (some (y232 ++ l0)) else (none))
set_option maxHeartbeats 8000000 in
set_option maxRecDepth 100000 in
theorem api_Person.calls (P0_ : Nat → Prop) (A0 : Option Addr) (c0 : Nat) (l0 : List (S55)) (r : List (S55)) (w : World) (hs0 : Kd.V k55 55 w w.heap.size (fun k_ => P0_ k_) (.slice A0 l0.length c0) l0) (h : api_Person.f l0 = some r) :
  Calls Try.prog 86 #[.slice A0 l0.length c0] w fun e w' => ∃ v0_ : Value, e = .returned (v0_) ∧ Kd.N k55 55 w' w.heap.size (fun k_ => (P0_ k_ ∨ w.heap.size ≤ k_)) v0_ r ∧ Below w.heap.size w w' := by
 rcases A0 with _ | x0
 ·
  have hl0 : l0 = [] := by
   rcases l0 with _ | ⟨y, ys⟩
   ·
    rfl
   ·
    obtain ⟨ad, had, _⟩ := (Kd.V_reads' hs0).2.2.2.2 (by simp)
    cases had
  subst hl0
  have hr : r = [] := by
   have h2 := h
   simp [api_Person.f] at h2
   exact h2
  subst hr
  clear h hs0
  have ke := fun (w : World) (a : Option Addr) (n c n' c' : Nat) => Lib.run_eql_slice_nil (P := Try.prog) w 35 55 a n c n' c' Try.underlying35
  go_enter Try.func86, Try.ntmps86
  go_wp2
  go_ret
  exact ⟨_, rfl, Kd.N_nil _ _ _ _ _, Below.refl _ _⟩
 have ke := fun (w : World) (n c n' c' : Nat) => Lib.run_eql_slice_nil (P := Try.prog) w 35 55 (some x0) n c n' c' Try.underlying35
 have HO0 := Aside0.mk (show Kd.V k55 55 w w.heap.size (fun k_ => (P0_ k_ ∨ w.heap.size ≤ k_)) (.slice (some x0) l0.length c0) l0 from Kd.V_mono hs0 (fun k_ hk => .inl hk))
 have HB := Aside0.mk (Below.refl w.heap.size w)
 have H : ((some (([] : List (S55)) : List (S55))).bind fun y232 => (if y232.length + l0.length < 1954687338268 then (some (y232 ++ l0)) else (none))) = some r := h
 clear h
 obtain ⟨y232, hy232⟩ : ∃ y_ : List (S55), y_ = (([] : List (S55))) := ⟨_, rfl⟩
 replace H : (if y232.length + l0.length < 1954687338268 then (some (y232 ++ l0)) else (none)) = some r := by first | (rw [hy232]; with_reducible exact H) | (have H2_ := (Option.bind_some _ _).symm.trans H; rw [hy232]; with_reducible exact H2_) | (have H2_ := (Option.bind_some _ _).symm.trans H; with_reducible exact H2_) | with_reducible exact H | (rw [hy232]; exact H) | exact H
 have Ny232 := Aside0.mk hy232
 clear hy232
 by_cases c2 : y232.length + l0.length < 1954687338268
 ·
  rw [if_pos c2] at H
  have LMc2 := Aside0.mk c2
  clear c2
  obtain ⟨y235, hy235⟩ : ∃ y_ : List (S55), y_ = (y232 ++ l0) := ⟨_, rfl⟩
  replace H : (some y235) = some r := by first | (rw [hy235]; with_reducible exact H) | (have H2_ := (Option.bind_some _ _).symm.trans H; rw [hy235]; with_reducible exact H2_) | (have H2_ := (Option.bind_some _ _).symm.trans H; with_reducible exact H2_) | with_reducible exact H | (rw [hy235]; exact H) | exact H
  have Ny235 := Aside0.mk hy235
  clear hy235
  obtain rfl := Option.some.inj H
  go_enter Try.func86, Try.ntmps86
  go_wp2_with (first | ((with_reducible refine gate_dst (N := 5) rfl ?_); refine Kd.N_lit k55 _ 55 ?hg (N' := 5) ?hd (xs := ([] : List (S55))) (inner := []) (ok := (fun k_ => (P0_ k_ ∨ w.heap.size ≤ k_))) (okp := (fun k_ => (P0_ k_ ∨ w.heap.size ≤ k_))) ?hr ?hp (fun _ hk => hk) ((show ∀ k_, w.heap.size ≤ k_ → (fun k_ => (P0_ k_ ∨ w.heap.size ≤ k_)) k_ from fun k_ hk => (.inr (Nat.le_trans (below_size hB_) hk))) _ (Nat.le_refl _)) (Below.refl _ _) (Nat.le_refl _) (by simp) ?_; (case hd => rfl); (case hg => rfl); (case hr => first | (go_simp; done) | (go_simp; rfl)); (case hp => exact (Reps.none _ _)); intro v233 w3 ho4 hb hg_ hnew_; clear hg_ hnew_; (first | rw [← Ny232.out] at ho4 | (simp only [Int.reduceToNat] at ho4; rw [← Ny232.out] at ho4)); have n0_ := Aside0.mk (Kd.V_elder' (by (with_reducible repeat (first | apply Kd.V_alloc | apply Kd.V_drewN | apply Kd.V_drew)); exact HO0.out) (Kd.N_base ho4) hb); have n1_ := Aside0.mk (Kd.N_lower ho4 (below_size hB_)); have n2_ := Aside0.mk (below_step hB_ hb); clear HO0; clear HB; have HO0 := n0_; have HO234 := n1_; have HB := n2_; clear n0_ n1_ n2_; clear hb ho4) | ((with_reducible refine gate_builtin (b := .append) (xs := #[.tmp 5, .tmp 6]) rfl ?_); at_builtin; refine Kd.N_append_rows k55 (w0 := w) w.heap.size rfl (.tmp 5) (.tmp 6) 35 55 (.agg #[(.int .u32 0), (.int .u32 0), (.int .u32 0), (.slice none 0 0), (.slice none 0 0), (.bool false)]) 72 rfl Try.underlying35 info55 rfl (by decide) (by omega) v233 y232 l0 _ _ _ (fun k_ => (P0_ k_ ∨ w.heap.size ≤ k_)) (fun k_ => ((fun k_ => (P0_ k_ ∨ w.heap.size ≤ k_))) k_ ∧ some k_ ≠ (v233 : Value).ownBlock) rfl rfl ?aO ?aR (fun _ hk => hk) ?aF ?aB ?aS ?aL ?_; (case aR => exact (by skip; exact Kd.V_F (Kd.V_mono (ok' := (fun k_ => ((fun k_ => (P0_ k_ ∨ w.heap.size ≤ k_))) k_ ∧ some k_ ≠ (v233 : Value).ownBlock)) (HO0.out) (fun k_ hk => ⟨hk.1, hk.2⟩)))); (case aB => exact hB_); (case aF => exact (fun k_ hk => (.inr (Nat.le_trans (below_size hB_) hk)))); (case aO => exact (by (with_reducible repeat (first | apply Kd.N_alloc | apply Kd.N_drewN | apply Kd.N_drew)); exact HO234.out)); (case aS => exact (below_size hB_)); (case aL => have := LMc2.out; omega); intro v236 w5 ho hb hg hat; rw [← Ny235.out] at ho; have n0_ := Aside0.mk (Kd.V_afterv (ok := (fun k_ => (P0_ k_ ∨ w.heap.size ≤ k_))) (by (with_reducible repeat (first | apply Kd.V_alloc | apply Kd.V_drewN | apply Kd.V_drew)); exact HO0.out) hg hat); have n1_ := Aside0.mk (hb); have n2_ := Aside0.mk (ho); clear HO0; clear HB; clear HO234; have HO0 := n0_; have HB := n1_; have HO237 := n2_; clear n0_ n1_ n2_; clear ho hb hg hat))
  go_ret
  exact ⟨_, eW_, by (with_reducible repeat (first | apply Kd.N_alloc | apply Kd.N_drewN | apply Kd.N_drew)); exact HO237.out, hB_⟩
 ·
  rw [if_neg c2] at H
  exact absurd H (by simp)

/-! ### people_Set: function 79 -/
def people_Set.f (l0 : List (S55)) (a1_0 : Int) (a1_1 : Int) (a1_2 : Int) (l1_3 : List Int) (l1_4 : List (S113)) (a1_5 : Bool) : Option ((List (S55)) × Int) := (people_in.f l0 a1_0).bind fun t239 => (if t239 = true then ((api_Person.f l0).bind fun t240 => (if 0 ≤ a1_0 then (if a1_0 < (t240.length : Int) then (some ((t240.set (a1_0 : Int).toNat (⟨a1_0, a1_1, a1_2, l1_3, l1_4, a1_5⟩ : S55)), 0)) else (none)) else (none))) else (some (l0, 1)))
set_option maxHeartbeats 8000000 in
set_option maxRecDepth 100000 in
theorem people_Set.calls (P0_ : Nat → Prop) (A0 : Option Addr) (c0 : Nat) (l0 : List (S55)) (a1_0 : Int) (a1_1 : Int) (a1_2 : Int) (P1_3_ : Nat → Prop) (A1_3 : Option Addr) (c1_3 : Nat) (l1_3 : List Int) (P1_4_ : Nat → Prop) (A1_4 : Option Addr) (c1_4 : Nat) (l1_4 : List (S113)) (a1_5 : Bool) (r1 : List (S55)) (r2 : Int) (w : World) (hs0 : Kd.V k55 55 w w.heap.size (fun k_ => P0_ k_) (.slice A0 l0.length c0) l0) (hs1_3 : Kd.V (Kd.int .u32) 22 w w.heap.size (fun k_ => P1_3_ k_) (.slice A1_3 l1_3.length c1_3) l1_3) (hs1_4 : Kd.V k113 113 w w.heap.size (fun k_ => P1_4_ k_) (.slice A1_4 l1_4.length c1_4) l1_4) (h : people_Set.f l0 a1_0 a1_1 a1_2 l1_3 l1_4 a1_5 = some (r1, r2)) :
  Calls Try.prog 79 #[.slice A0 l0.length c0, .agg #[.int .u32 a1_0, .int .u32 a1_1, .int .u32 a1_2, .slice A1_3 l1_3.length c1_3, .slice A1_4 l1_4.length c1_4, .bool a1_5]] w fun e w' => ∃ v0_ : Value, e = .returned (.tuple #[v0_, .int .i64 r2]) ∧ Kd.V k55 55 w' w.heap.size (fun k_ => ((P0_ k_ ∨ P1_3_ k_ ∨ P1_4_ k_) ∨ w.heap.size ≤ k_)) v0_ r1 ∧ Below w.heap.size w w' := by
 have hu55 := Try.underlying55
 have HO0 := Aside0.mk (show Kd.V k55 55 w w.heap.size (fun k_ => ((P0_ k_ ∨ P1_3_ k_ ∨ P1_4_ k_) ∨ w.heap.size ≤ k_)) (.slice A0 l0.length c0) l0 from Kd.V_mono hs0 (fun k_ hk => .inl (.inl hk)))
 have HO1_3 := Aside0.mk (show Kd.V (Kd.int .u32) 22 w w.heap.size (fun k_ => ((P0_ k_ ∨ P1_3_ k_ ∨ P1_4_ k_) ∨ w.heap.size ≤ k_)) (.slice A1_3 l1_3.length c1_3) l1_3 from Kd.V_mono hs1_3 (fun k_ hk => .inl (.inr (.inl hk))))
 have HO1_4 := Aside0.mk (show Kd.V k113 113 w w.heap.size (fun k_ => ((P0_ k_ ∨ P1_3_ k_ ∨ P1_4_ k_) ∨ w.heap.size ≤ k_)) (.slice A1_4 l1_4.length c1_4) l1_4 from Kd.V_mono hs1_4 (fun k_ hk => .inl (.inr (.inr hk))))
 have HB := Aside0.mk (Below.refl w.heap.size w)
 have H : ((people_in.f l0 a1_0).bind fun t239 => (if t239 = true then ((api_Person.f l0).bind fun t240 => (if 0 ≤ a1_0 then (if a1_0 < (t240.length : Int) then (some ((t240.set (a1_0 : Int).toNat (⟨a1_0, a1_1, a1_2, l1_3, l1_4, a1_5⟩ : S55)), 0)) else (none)) else (none))) else (some (l0, 1)))) = some (r1, r2) := h
 clear h
 replace H := Option.bind_eq_some_iff.mp H
 obtain ⟨t239, A30, H⟩ := H
 replace H : (if t239 = true then ((api_Person.f l0).bind fun t240 => (if 0 ≤ a1_0 then (if a1_0 < (t240.length : Int) then (some ((t240.set (a1_0 : Int).toNat (⟨a1_0, a1_1, a1_2, l1_3, l1_4, a1_5⟩ : S55)), 0)) else (none)) else (none))) else (some (l0, 1))) = some (r1, r2) := H
 have A3 := Aside0.mk A30
 clear A30
 by_cases c4 : t239 = true
 ·
  subst c4
  have H1 : ((api_Person.f l0).bind fun t240 => (if 0 ≤ a1_0 then (if a1_0 < (t240.length : Int) then (some ((t240.set (a1_0 : Int).toNat (⟨a1_0, a1_1, a1_2, l1_3, l1_4, a1_5⟩ : S55)), 0)) else (none)) else (none))) = some (r1, r2) := by rw [if_pos rfl] at H; exact H
  clear H
  have H := H1
  clear H1
  replace H := Option.bind_eq_some_iff.mp H
  obtain ⟨t240, A50, H⟩ := H
  replace H : (if 0 ≤ a1_0 then (if a1_0 < (t240.length : Int) then (some ((t240.set (a1_0 : Int).toNat (⟨a1_0, a1_1, a1_2, l1_3, l1_4, a1_5⟩ : S55)), 0)) else (none)) else (none)) = some (r1, r2) := H
  have A5 := Aside0.mk A50
  clear A50
  by_cases c6 : 0 ≤ a1_0
  ·
   rw [if_pos c6] at H
   have c6b0 : decide (0 ≤ a1_0) = true := decide_eq_true c6
   clear c6
   by_cases c7 : a1_0 < (t240.length : Int)
   ·
    rw [if_pos c7] at H
    have c7b0 : decide (a1_0 < (t240.length : Int)) = true := decide_eq_true c7
    clear c7
    obtain ⟨y243, hy243⟩ : ∃ y_ : List (S55), y_ = (t240.set (a1_0 : Int).toNat (⟨a1_0, a1_1, a1_2, l1_3, l1_4, a1_5⟩ : S55)) := ⟨_, rfl⟩
    replace H : (some (y243, 0)) = some (r1, r2) := by first | (rw [hy243]; with_reducible exact H) | (have H2_ := (Option.bind_some _ _).symm.trans H; rw [hy243]; with_reducible exact H2_) | (have H2_ := (Option.bind_some _ _).symm.trans H; with_reducible exact H2_) | with_reducible exact H | (rw [hy243]; exact H) | exact H
    have Ny243 := Aside0.mk hy243
    clear hy243
    simp only [Option.some.injEq, Prod.mk.injEq] at H
    obtain ⟨rfl, rfl⟩ := H
    go_enter Try.func79, Try.ntmps79
    go_wp2_with (first | ((with_reducible refine gate_dst (N := 3) rfl ?_); refine box_event ?hg (N := 3) ?hd (cs := #[.int .u32 a1_0, .int .u32 a1_1, .int .u32 a1_2, .slice A1_3 l1_3.length c1_3, .slice A1_4 l1_4.length c1_4, .bool a1_5]) (t := 55) ?hr ?_; (case hd => rfl); (case hg => rfl); (case hr => first | (go_simp; done) | (go_simp; rfl)); intro gb238 hg w9 hbox hb; have n0_ := Aside0.mk (ve_ HO0.out gb238 hg hb); have n1_ := Aside0.mk (ve_ HO1_3.out gb238 hg hb); have n2_ := Aside0.mk (ve_ HO1_4.out gb238 hg hb); have n3_ := Aside0.mk (bs_ hb); have n4_ := Aside0.mk (hbox); have n6_ := Aside0.mk ((ge_ hg : w.heap.size ≤ gb238)); clear HO0 HO1_3 HO1_4 HB; have HO0 := n0_; have HO1_3 := n1_; have HO1_4 := n2_; have HB := n3_; have BK238 := n4_; have GE238 := n6_; clear n0_ n1_ n2_ n3_ n4_ n6_; clear hb hbox hg; have ⟨hcz10_0, hcz10_1, hcz10_2, hcz10_3, hcz10_4, hcz10_5⟩ := cz6_ BK238.out; have ⟨hfz10_0, hfz10_1, hfz10_2, hfz10_3, hfz10_4, hfz10_5⟩ := fz6_ BK238.out) | ((with_reducible refine gate_callee (f := 85) rfl ?_); refine goesL_ (some 10) rfl rfl Try.func85 (by kernel_rfl) rfl #[.slice A0 l0.length c0, .int .u32 a1_0] rfl mD_ ?_; (with_reducible refine (people_in.calls _ _ l0 a1_0 true _ ?side1 ?side2 A3.out).mono ?_); (case side1 => repeat (first | exact (Kd.V_reads' HO0.out).2.2 | (with_reducible refine Kd.C_alloc ?_ _) | (with_reducible refine Kd.C_drewN ?_ _) | (with_reducible refine Kd.C_drew ?_))); (case side2 => exact (Kd.V_reads' HO0.out).2.1); rintro e w' ⟨rfl, ⟨nd, rfl⟩⟩; refine ⟨_, rfl, ?_⟩; (try (rw [drewN_self w9]; generalize hq_ : World.drewN w9 _ = w9; have n0_ : Aside0 (Kd.V k55 55 w9 w.heap.size (fun k_ => ((P0_ k_ ∨ P1_3_ k_ ∨ P1_4_ k_) ∨ w.heap.size ≤ k_) ∧ k_ ≠ gb238) (.slice A0 l0.length c0) l0) := ⟨by rw [← hq_]; exact (by (with_reducible repeat (first | apply Kd.V_alloc | apply Kd.V_drewN | apply Kd.V_drew)); exact HO0.out)⟩; have n1_ : Aside0 (Kd.V (Kd.int .u32) 22 w9 w.heap.size (fun k_ => ((P0_ k_ ∨ P1_3_ k_ ∨ P1_4_ k_) ∨ w.heap.size ≤ k_) ∧ k_ ≠ gb238) (.slice A1_3 l1_3.length c1_3) l1_3) := ⟨by rw [← hq_]; exact (by (with_reducible repeat (first | apply Kd.V_alloc | apply Kd.V_drewN | apply Kd.V_drew)); exact HO1_3.out)⟩; have n2_ : Aside0 (Kd.V k113 113 w9 w.heap.size (fun k_ => ((P0_ k_ ∨ P1_3_ k_ ∨ P1_4_ k_) ∨ w.heap.size ≤ k_) ∧ k_ ≠ gb238) (.slice A1_4 l1_4.length c1_4) l1_4) := ⟨by rw [← hq_]; exact (by (with_reducible repeat (first | apply Kd.V_alloc | apply Kd.V_drewN | apply Kd.V_drew)); exact HO1_4.out)⟩; have n3_ : Aside0 (w9.heap[gb238]? = some (.cells #[.int .u32 a1_0, .int .u32 a1_1, .int .u32 a1_2, .slice A1_3 l1_3.length c1_3, .slice A1_4 l1_4.length c1_4, .bool a1_5] 55 (0, 0))) := ⟨by rw [← hq_]; exact (by (with_reducible repeat (first | refine blk_drewN ?_ _ | refine blk_drew ?_ | refine blk_alloc ?_ _)); exact BK238.out)⟩; have n4_ : Aside0 (Below w.heap.size w w9) := ⟨by rw [← hq_]; exact (by repeat (first | (with_reducible first | exact HB.out | apply below_alloc | apply pw_below_drewN | apply below_drew1 | refine below_set ?_ GE238.out) | exact HB.out))⟩; clear HO0 HO1_3 HO1_4 BK238 HB hq_; have HO0 := n0_; have HO1_3 := n1_; have HO1_4 := n2_; have BK238 := n3_; have HB := n4_; clear n0_ n1_ n2_ n3_ n4_))) | ((with_reducible refine gate_callee (f := 86) rfl ?_); refine goesL_ (some 14) rfl rfl Try.func86 (by kernel_rfl) rfl #[.slice A0 l0.length c0] rfl mD_ ?_; (with_reducible refine (api_Person.calls (fun k_ => (((P0_ k_ ∨ P1_3_ k_ ∨ P1_4_ k_) ∨ w.heap.size ≤ k_) ∧ k_ ≠ gb238)) _ _ l0 t240 _ ?side1 A5.out).mono ?_); (case side1 => exact HO0.out); rintro e w11 ⟨v241, rfl, ho0, hb⟩; refine ⟨_, rfl, ?_⟩; have n1_ := Aside0.mk (vf_ HO1_3.out (Kd.N_base ho0) hb); have n2_ := Aside0.mk (vf_ HO1_4.out (Kd.N_base ho0) hb); have n3_ := Aside0.mk (Kd.N_lower (Kd.N_mono (ok' := fun k_ => ((P0_ k_ ∨ P1_3_ k_ ∨ P1_4_ k_) ∨ w.heap.size ≤ k_) ∧ k_ ≠ gb238) ho0 (fun k_ hk_ => ⟨Or.elim hk_ (fun hs_ => hs_.1) (fun hn_ => (.inr (Nat.le_trans (below_size (by repeat (first | (with_reducible first | exact HB.out | apply below_alloc | apply pw_below_drewN | apply below_drew1 | refine below_set ?_ GE238.out) | exact HB.out))) hn_))), Or.elim hk_ (fun hs_ => hs_.2) (fun hn_ => (fb_ BK238.out k_ hn_))⟩)) (below_size (by repeat (first | (with_reducible first | exact HB.out | apply below_alloc | apply pw_below_drewN | apply below_drew1 | refine below_set ?_ GE238.out) | exact HB.out)))); have n4_ := Aside0.mk (bb_ BK238.out hb); have n5_ := Aside0.mk (bs_ hb); clear HO0 HO1_3 HO1_4 BK238 HB; have HO1_3 := n1_; have HO1_4 := n2_; have HO242 := n3_; have BK238 := n4_; have HB := n5_; clear n1_ n2_ n3_ n4_ n5_; (try clear hb); (try clear hb2); (try clear hk); (try clear hi); (try clear ho0); have ⟨hcz12_0, hcz12_1, hcz12_2, hcz12_3, hcz12_4, hcz12_5⟩ := cz6_ BK238.out; have ⟨hfz12_0, hfz12_1, hfz12_2, hfz12_3, hfz12_4, hfz12_5⟩ := fz6_ BK238.out; have p8 : 0 ≤ (a1_0 : Int) := of_decide_eq_true aS_; have q8 : (a1_0 : Int) < ((t240.length : Int) : Int) := of_decide_eq_true aS_; obtain ⟨go8, co8, eo8, gb8, gl8, cl8, HG8⟩ := Kd.N_form HO242.out (by omega); (first | cases eo8 | (injection eo8 with ea_ en_ ec_; (first | subst ea_ | (injection ea_ with ea_; subst ea_)); subst ec_; clear en_)); have GB8 := Aside0.mk gb8; have GG8 := Aside0.mk HG8; clear gb8 gl8 HG8; obtain ⟨ce8, hcl8, hM8, hcc8, hfr8⟩ := Kd.N_elem HO242.out z55 (a1_0 : Int) p8 q8; obtain ⟨ua8_3, uc8_3, ua8_4, uc8_4, rfl, ul8_3, ge8_3, ul8_4, ge8_4⟩ := k55_openF hM8; have hx8_0 : w11.cell? ⟨go8, (a1_0 : Int).toNat * 6, none⟩ = some (.int .u32 ((rd_T55 t240 a1_0).f0)) := hcc8 0 _ rfl; have hx8_1 : w11.cell? ⟨go8, (a1_0 : Int).toNat * 6 + 1, none⟩ = some (.int .u32 ((rd_T55 t240 a1_0).f1)) := hcc8 1 _ rfl; have hx8_2 : w11.cell? ⟨go8, (a1_0 : Int).toNat * 6 + 2, none⟩ = some (.int .u32 ((rd_T55 t240 a1_0).f2)) := hcc8 2 _ rfl; have hx8_3 : w11.cell? ⟨go8, (a1_0 : Int).toNat * 6 + 3, none⟩ = some (.slice ua8_3 ((rd_T55 t240 a1_0).f3).length uc8_3) := hcc8 3 _ rfl; have hx8_4 : w11.cell? ⟨go8, (a1_0 : Int).toNat * 6 + 4, none⟩ = some (.slice ua8_4 ((rd_T55 t240 a1_0).f4).length uc8_4) := hcc8 4 _ rfl; have hx8_5 : w11.cell? ⟨go8, (a1_0 : Int).toNat * 6 + 5, none⟩ = some (.bool ((rd_T55 t240 a1_0).f5)) := hcc8 5 _ rfl; have hf8_0 : w11.frozen? ⟨go8, (a1_0 : Int).toNat * 6, none⟩ = false := hfr8 0; have hf8_1 : w11.frozen? ⟨go8, (a1_0 : Int).toNat * 6 + 1, none⟩ = false := hfr8 1; have hf8_2 : w11.frozen? ⟨go8, (a1_0 : Int).toNat * 6 + 2, none⟩ = false := hfr8 2; have hf8_3 : w11.frozen? ⟨go8, (a1_0 : Int).toNat * 6 + 3, none⟩ = false := hfr8 3; have hf8_4 : w11.frozen? ⟨go8, (a1_0 : Int).toNat * 6 + 4, none⟩ = false := hfr8 4; have hf8_5 : w11.frozen? ⟨go8, (a1_0 : Int).toNat * 6 + 5, none⟩ = false := hfr8 5; clear hcl8 hcc8 hfr8 hM8; replace p8 := eq_true p8; replace q8 := eq_true q8; have HX13 := Aside0.mk (show Kd.N k55 55 w11 w.heap.size (fun k_ => ((P0_ k_ ∨ P1_3_ k_ ∨ P1_4_ k_) ∨ w.heap.size ≤ k_) ∧ k_ ≠ gb238) (.slice (some ⟨go8, 0, none⟩) t240.length co8) t240 from (by (with_reducible repeat (first | apply Kd.N_alloc | apply Kd.N_drewN | apply Kd.N_drew)); exact HO242.out)); obtain ⟨ce13, hcl13, hM13, hcc13, hfr13⟩ := Kd.N_elem HX13.out z55 (a1_0 : Int) (of_decide_eq_true aS_) (by have h_ : (a1_0 : Int) < ((t240.length : Int) : Int) := of_decide_eq_true aS_; first | exact h_ | (have e_ := (Kd.N_reads' HO242.out).1; omega) | simpa using h_); obtain ⟨ua13_3, uc13_3, ua13_4, uc13_4, rfl, ul13_3, ge13_3, ul13_4, ge13_4⟩ := k55_openF hM13; have HP13 := Kd.N_seg HX13.out (a1_0 : Int) (of_decide_eq_true aS_) (by have h_ : (a1_0 : Int) < ((t240.length : Int) : Int) := of_decide_eq_true aS_; first | exact h_ | (have e_ := (Kd.N_reads' HO242.out).1; omega) | simpa using h_) (seg := [.int .u32 a1_0, .int .u32 a1_1, .int .u32 a1_2, .slice A1_3 l1_3.length c1_3, .slice A1_4 l1_4.length c1_4, .bool a1_5]) (j := 0) hcl13 hcc13 (show 6 ≤ 6 from by decide) (x' := (⟨a1_0, a1_1, a1_2, l1_3, l1_4, a1_5⟩ : S55)) (k55_mkF _ _ (⟨a1_0, a1_1, a1_2, l1_3, l1_4, a1_5⟩ : S55) (Kd.V_reads' (Kd.V_mono (ok' := (fun k_ => ((fun k_ => ((P0_ k_ ∨ P1_3_ k_ ∨ P1_4_ k_) ∨ w.heap.size ≤ k_) ∧ k_ ≠ gb238)) k_ ∧ k_ ≠ go8)) (HO1_3.out) (fun k_ hk => ⟨⟨hk.1.1, hk.1.2⟩, fun e_ => (hk.2) (by rw [e_]; rfl)⟩))).2.1 (Kd.V_F (Kd.V_mono (ok' := (fun k_ => ((fun k_ => ((P0_ k_ ∨ P1_3_ k_ ∨ P1_4_ k_) ∨ w.heap.size ≤ k_) ∧ k_ ≠ gb238)) k_ ∧ k_ ≠ go8)) (HO1_3.out) (fun k_ hk => ⟨⟨hk.1.1, hk.1.2⟩, fun e_ => (hk.2) (by rw [e_]; rfl)⟩))) (Kd.V_reads' (Kd.V_mono (ok' := (fun k_ => ((fun k_ => ((P0_ k_ ∨ P1_3_ k_ ∨ P1_4_ k_) ∨ w.heap.size ≤ k_) ∧ k_ ≠ gb238)) k_ ∧ k_ ≠ go8)) (HO1_4.out) (fun k_ hk => ⟨⟨hk.1.1, hk.1.2⟩, fun e_ => (hk.2) (by rw [e_]; rfl)⟩))).2.1 (Kd.V_F (Kd.V_mono (ok' := (fun k_ => ((fun k_ => ((P0_ k_ ∨ P1_3_ k_ ∨ P1_4_ k_) ∨ w.heap.size ≤ k_) ∧ k_ ≠ gb238)) k_ ∧ k_ ≠ go8)) (HO1_4.out) (fun k_ hk => ⟨⟨hk.1.1, hk.1.2⟩, fun e_ => (hk.2) (by rw [e_]; rfl)⟩)))) (fun _ hk => hk); have hx13_0 := hcc13 0 _ rfl; (try simp only [show (k55).sz = 6 from rfl, Nat.mul_one, Nat.add_zero] at hx13_0); have hf13_0 := hfr13 0; (try simp only [show (k55).sz = 6 from rfl, Nat.mul_one, Nat.add_zero] at hf13_0); have hx13_1 := hcc13 1 _ rfl; (try simp only [show (k55).sz = 6 from rfl, Nat.mul_one, Nat.add_zero] at hx13_1); have hf13_1 := hfr13 1; (try simp only [show (k55).sz = 6 from rfl, Nat.mul_one, Nat.add_zero] at hf13_1); have hx13_2 := hcc13 2 _ rfl; (try simp only [show (k55).sz = 6 from rfl, Nat.mul_one, Nat.add_zero] at hx13_2); have hf13_2 := hfr13 2; (try simp only [show (k55).sz = 6 from rfl, Nat.mul_one, Nat.add_zero] at hf13_2); have hx13_3 := hcc13 3 _ rfl; (try simp only [show (k55).sz = 6 from rfl, Nat.mul_one, Nat.add_zero] at hx13_3); have hf13_3 := hfr13 3; (try simp only [show (k55).sz = 6 from rfl, Nat.mul_one, Nat.add_zero] at hf13_3); have hx13_4 := hcc13 4 _ rfl; (try simp only [show (k55).sz = 6 from rfl, Nat.mul_one, Nat.add_zero] at hx13_4); have hf13_4 := hfr13 4; (try simp only [show (k55).sz = 6 from rfl, Nat.mul_one, Nat.add_zero] at hf13_4); have hx13_5 := hcc13 5 _ rfl; (try simp only [show (k55).sz = 6 from rfl, Nat.mul_one, Nat.add_zero] at hx13_5); have hf13_5 := hfr13 5; (try simp only [show (k55).sz = 6 from rfl, Nat.mul_one, Nat.add_zero] at hf13_5); clear hcl13 hcc13 hfr13 hM13) | ((with_reducible refine gate_store (t := 55) (p := 19) rfl ?_); refine store_event (t := 55) (p := 19) (v := ?vo_w14) (w1 := ((((((w11.setCell ⟨go8, (a1_0 : Int).toNat * 6, none⟩ (.int .u32 a1_0)).setCell ⟨go8, (a1_0 : Int).toNat * 6 + 1, none⟩ (.int .u32 a1_1)).setCell ⟨go8, (a1_0 : Int).toNat * 6 + 2, none⟩ (.int .u32 a1_2)).setCell ⟨go8, (a1_0 : Int).toNat * 6 + 3, none⟩ (.slice A1_3 l1_3.length c1_3)).setCell ⟨go8, (a1_0 : Int).toNat * 6 + 4, none⟩ (.slice A1_4 l1_4.length c1_4)).setCell ⟨go8, (a1_0 : Int).toNat * 6 + 5, none⟩ (.bool a1_5))) ?hg ?ho ?hn ?hr ?_; (case ho => rfl); (case hg => rfl); (case hn => rfl); (case hr => first | (go_simp; done) | (go_simp; rfl)); intro w14 hw; have hg : w11.grownBy w14 (some go8) := (by rw [hw]; exact HP13.2); have hp_ : Kd.N k55 55 w14 w.heap.size (fun k_ => ((P0_ k_ ∨ P1_3_ k_ ∨ P1_4_ k_) ∨ w.heap.size ≤ k_) ∧ k_ ≠ gb238) (.slice (some ⟨go8, 0, none⟩) t240.length co8) y243 := (by rw [hw, Ny243.out]; exact HP13.1); clear HP13; have n4_ := Aside0.mk (hp_); have n5_ := Aside0.mk ((by rw [hw]; exact below_set (below_set (below_set (below_set (below_set (below_set (HB.out) GB8.out) GB8.out) GB8.out) GB8.out) GB8.out) GB8.out : Below w.heap.size w w14)); clear HO1_3 HO1_4 BK238 HO242 HB; have HO242 := n4_; have HB := n5_; clear n4_ n5_; clear hg hw hp_))
    go_ret2
    exact ⟨_, eW_, Kd.N_V (by (with_reducible repeat (first | apply Kd.N_alloc | apply Kd.N_drewN | apply Kd.N_drew)); exact Kd.N_mono HO242.out (fun _ hk => hk.1)), by repeat (first | (with_reducible first | exact HB.out | apply below_alloc | apply pw_below_drewN | apply below_drew1 | refine below_set ?_ GE238.out) | exact HB.out)⟩
   ·
    rw [if_neg c7] at H
    exact absurd H (by simp)
  ·
   rw [if_neg c6] at H
   exact absurd H (by simp)
 ·
  replace c4 := Bool.eq_false_iff.mpr c4
  subst c4
  have H1 : (some (l0, 1)) = some (r1, r2) := by rw [if_neg (show ¬ (false = true) by decide)] at H; exact H
  clear H
  have H := H1
  clear H1
  simp only [Option.some.injEq, Prod.mk.injEq] at H
  obtain ⟨rfl, rfl⟩ := H
  go_enter Try.func79, Try.ntmps79
  go_wp2_with (first | ((with_reducible refine gate_dst (N := 3) rfl ?_); refine box_event ?hg (N := 3) ?hd (cs := #[.int .u32 a1_0, .int .u32 a1_1, .int .u32 a1_2, .slice A1_3 l1_3.length c1_3, .slice A1_4 l1_4.length c1_4, .bool a1_5]) (t := 55) ?hr ?_; (case hd => rfl); (case hg => rfl); (case hr => first | (go_simp; done) | (go_simp; rfl)); intro gb238 hg w15 hbox hb; have n0_ := Aside0.mk (ve_ HO0.out gb238 hg hb); have n3_ := Aside0.mk (bs_ hb); have n4_ := Aside0.mk (hbox); have n6_ := Aside0.mk ((ge_ hg : w.heap.size ≤ gb238)); clear HO0 HO1_3 HO1_4 HB; have HO0 := n0_; have HB := n3_; have BK238 := n4_; have GE238 := n6_; clear n0_ n3_ n4_ n6_; clear hb hbox hg; have ⟨hcz16_0, hcz16_1, hcz16_2, hcz16_3, hcz16_4, hcz16_5⟩ := cz6_ BK238.out; have ⟨hfz16_0, hfz16_1, hfz16_2, hfz16_3, hfz16_4, hfz16_5⟩ := fz6_ BK238.out) | ((with_reducible refine gate_callee (f := 85) rfl ?_); refine goesL_ (some 10) rfl rfl Try.func85 (by kernel_rfl) rfl #[.slice A0 l0.length c0, .int .u32 a1_0] rfl mD_ ?_; (with_reducible refine (people_in.calls _ _ l0 a1_0 false _ ?side1 ?side2 A3.out).mono ?_); (case side1 => repeat (first | exact (Kd.V_reads' HO0.out).2.2 | (with_reducible refine Kd.C_alloc ?_ _) | (with_reducible refine Kd.C_drewN ?_ _) | (with_reducible refine Kd.C_drew ?_))); (case side2 => exact (Kd.V_reads' HO0.out).2.1); rintro e w' ⟨rfl, ⟨nd, rfl⟩⟩; refine ⟨_, rfl, ?_⟩))
  go_ret2
  exact ⟨_, eW_, by (with_reducible repeat (first | apply Kd.V_alloc | apply Kd.V_drewN | apply Kd.V_drew)); exact Kd.V_mono HO0.out (fun _ hk => hk.1), by repeat (first | (with_reducible first | exact HB.out | apply below_alloc | apply pw_below_drewN | apply below_drew1 | refine below_set ?_ GE238.out) | exact HB.out)⟩

/-! ### api_Leak_80: function 80 -/
def api_Leak_80.f (l0 : List (S85)) (a1 : Int) : Option ((List (S85))) := if a1 < 0 then (none) else (if (l0.length : Int) > 0 then (none) else (if a1 > 0 then (if 0 ≤ a1 then (if ([] : List (S85)).length + (a1 : Int).toNat < 17592186044416 then ((some (([] : List (S85)) ++ List.replicate (a1 : Int).toNat z85 : List (S85))).bind fun y244 => (if 0 ≤ (y244.length : Int) then (some (y244.take (0 : Int).toNat)) else (none))) else (none)) else (none)) else (some ([] : List (S85)))))
set_option maxHeartbeats 8000000 in
set_option maxRecDepth 100000 in
theorem api_Leak_80.calls (A0 : Option Addr) (c0 : Nat) (l0 : List (S85)) (a1 : Int) (r : List (S85)) (w : World) (hr0 : Kd.C k85 w A0 l0.length l0) (hc0 : l0.length ≤ c0) (h : api_Leak_80.f l0 a1 = some r) (hA : A0 = none := by rfl) (hcap : c0 = 0 := by rfl) :
  Calls Try.prog 80 #[.slice A0 l0.length c0, .int .i64 a1] w fun e w' => ∃ v0_ : Value, e = .returned (v0_) ∧ Kd.R k85 85 w' w.heap.size (fun _ => True) v0_ r ∧ Below w.heap.size w w' := by
 subst hA hcap
 have hl0 : l0 = [] := by
  rcases l0 with _ | ⟨y, ys⟩
  ·
   rfl
  ·
   obtain ⟨ad, had, _⟩ := hr0.2.2 (by simp)
   cases had
 subst hl0
 have HR0 := Aside0.mk hr0
 have HC0 := Aside0.mk hc0
 clear hr0 hc0
 have HB := Aside0.mk (Below.refl w.heap.size w)
 have H : (if a1 < 0 then (none) else (if (([] : List (S85)).length : Int) > 0 then (none) else (if a1 > 0 then (if 0 ≤ a1 then (if ([] : List (S85)).length + (a1 : Int).toNat < 17592186044416 then ((some (([] : List (S85)) ++ List.replicate (a1 : Int).toNat z85 : List (S85))).bind fun y244 => (if 0 ≤ (y244.length : Int) then (some (y244.take (0 : Int).toNat)) else (none))) else (none)) else (none)) else (some ([] : List (S85)))))) = some r := h
 clear h
 by_cases c3 : a1 < 0
 ·
  rw [if_pos c3] at H
  exact absurd H (by simp)
 ·
  rw [if_neg c3] at H
  have c3b0 : decide (a1 < 0) = false := decide_eq_false c3
  clear c3
  by_cases c4 : (([] : List (S85)).length : Int) > 0
  ·
   rw [if_pos c4] at H
   exact absurd H (by simp)
  ·
   rw [if_neg c4] at H
   have c4b0 : decide (0 < (([] : List (S85)).length : Int)) = false := decide_eq_false c4
   have c4b1 : decide (0 < ([] : List (S85)).length) = false := decide_eq_false (by omega)
   clear c4
   by_cases c5 : a1 > 0
   ·
    rw [if_pos c5] at H
    have c5b0 : decide (0 < a1) = true := decide_eq_true c5
    clear c5
    by_cases c6 : 0 ≤ a1
    ·
     rw [if_pos c6] at H
     have c6b0 := eq_true c6
     have c6b1 : decide (0 ≤ a1) = true := decide_eq_true c6
     clear c6
     by_cases c7 : ([] : List (S85)).length + (a1 : Int).toNat < 17592186044416
     ·
      rw [if_pos c7] at H
      have LMc7 := Aside0.mk c7
      clear c7
      obtain ⟨y244, hy244⟩ : ∃ y_ : List (S85), y_ = (([] : List (S85)) ++ List.replicate (a1 : Int).toNat z85) := ⟨_, rfl⟩
      replace H : (if 0 ≤ (y244.length : Int) then (some (y244.take (0 : Int).toNat)) else (none)) = some r := by first | (rw [hy244]; with_reducible exact H) | (have H2_ := (Option.bind_some _ _).symm.trans H; rw [hy244]; with_reducible exact H2_) | (have H2_ := (Option.bind_some _ _).symm.trans H; with_reducible exact H2_) | with_reducible exact H | (rw [hy244]; exact H) | exact H
      have Ny244 := Aside0.mk hy244
      clear hy244
      by_cases c8 : 0 ≤ (y244.length : Int)
      ·
       rw [if_pos c8] at H
       have c8b0 := eq_true c8
       have c8b1 : decide (0 ≤ (y244.length : Int)) = true := decide_eq_true c8
       clear c8
       obtain ⟨y247, hy247⟩ : ∃ y_ : List (S85), y_ = (y244.take (0 : Int).toNat) := ⟨_, rfl⟩
       replace H : (some y247) = some r := by first | (rw [hy247]; with_reducible exact H) | (have H2_ := (Option.bind_some _ _).symm.trans H; rw [hy247]; with_reducible exact H2_) | (have H2_ := (Option.bind_some _ _).symm.trans H; with_reducible exact H2_) | with_reducible exact H | (rw [hy247]; exact H) | exact H
       have Ny247 := Aside0.mk hy247
       clear hy247
       obtain rfl := Option.some.inj H
       have hhi : a1 ≤ 35184372088832 := by have := LMc7.out; simp only [List.length_nil] at this; omega
       have hlo : 0 ≤ a1 := of_decide_eq_true c6b1
       show Calls Try.prog 80 #[.slice none 0 0, .int .i64 a1] w _
       go_enter Try.func80, Try.ntmps80
       go_wp2_with (first | (at_builtin; refine Kd.R_append_zeros k85 (w0 := w) w.heap.size rfl (.tmp 20) (.tmp 21) 37 3 85 (.agg #[(.int .u32 0), (.int .u32 0)]) 8 rfl Try.underlying37 Try.underlying3 info85 rfl (by decide) (by omega) (.slice none 0 0) ([] : List (S85)) z85 (a1 : Int) (fun _ => True) rfl rfl (k85_mkM _ _ _ z85 ) ?aF ?aO (of_decide_eq_true aS_) ?aB ?aS ?aL ?_; (case aB => exact hB_); (case aF => exact (fun _ _ => trivial)); (case aO => exact ((Kd.R_nil _ _ _ _ (fun _ => True)))); (case aS => exact (below_size hB_)); (case aL => have := LMc7.out; omega); intro v245 w9 ho hb hg hat; rw [← Ny244.out] at ho; have n0_ := Aside0.mk (hb); have n1_ := Aside0.mk (ho); clear HB; have HB := n0_; have HO246 := n1_; clear n0_ n1_; clear ho hb hg hat; obtain ⟨Ao10, co10, eo10⟩ := Kd.R_slice HO246.out; subst eo10; have q11 : (0 : Int) ≤ ((y244.length : Int) : Int) := of_decide_eq_true aS_; obtain ⟨i011, hi011, _, hsz11, _⟩ := info_parts info85; have hcut11 := cut_to (P := Try.prog) 37 85 .i64 Try.underlying37 hi011 Ao10 y244.length co10 0 (by omega) q11 (Kd.R_reads' HO246.out).2.1; have hr11 := Kd.R_take (m := (0 : Int).toNat) HO246.out (by omega); have hy11 : y247.length = (0 : Int).toNat := (by rw [Ny247.out, List.length_take]; omega); rw [← Ny247.out] at hr11; rw [← hy11] at hr11 hcut11; clear hy11 hi011 hsz11 HO246; have HO249 := Aside0.mk hr11; clear hr11; replace q11 := eq_true q11))
       go_ret
       exact ⟨_, eW_, by (with_reducible repeat (first | apply Kd.R_alloc | apply Kd.R_drewN | apply Kd.R_drew)); exact HO249.out, hB_⟩
      ·
       rw [if_neg c8] at H
       exact absurd H (by simp)
     ·
      rw [if_neg c7] at H
      exact absurd H (by simp)
    ·
     rw [if_neg c6] at H
     exact absurd H (by simp)
   ·
    rw [if_neg c5] at H
    have c5b0 : decide (0 < a1) = false := decide_eq_false c5
    clear c5
    obtain rfl := Option.some.inj H
    have ha1 : a1 = 0 := by have q1 := of_decide_eq_false c3b0; have q2 := of_decide_eq_false c5b0; omega
    clear c3b0 c5b0 c4b0 c4b1
    subst ha1
    show Calls Try.prog 80 #[.slice none 0 0, .int .i64 0] w _
    go_enter Try.func80, Try.ntmps80
    go_wp2
    go_ret
    exact ⟨_, eW_, by first | exact Kd.R_nil _ _ _ _ _ | exact Kd.N_nil _ _ _ _ _ | exact Kd.V_nil _ _ _ _ _ | exact Kd.Q_nil _ _ _ _ _ | exact Kd.S_nil _ _ _ _ _, hB_⟩

/-! ### api_Leak_70: function 70 -/
mutual
def api_Leak_70.l0 : Nat → List (List (S85)) → Int → List (List (S85)) → Int → Int → Option ((List (S85)))
 | 0, _, _, _, _, _ => none
 | k + 1, x0, x3, x9, x10, x11 => if x11 < x10 then (if 0 ≤ x11 then (if x11 < (x9.length : Int) then (if (wrap64 (x3 + ((rd_L12 x9 x11).length : Int))) < 0 then (none) else (api_Leak_70.l0 k x0 (wrap64 (x3 + ((rd_L12 x9 x11).length : Int))) x9 x10 (wrap64 (x11 + 1)))) else (none)) else (none)) else ((api_Leak_80.f ([] : List (S85)) x3).bind fun t251 => (api_Leak_70.l1 k t251 x0 (x0.length : Int) 0))
def api_Leak_70.l1 : Nat → List (S85) → List (List (S85)) → Int → Int → Option ((List (S85)))
 | 0, _, _, _, _ => none
 | k + 1, x6, x25, x26, x27 => if x27 < x26 then (if 0 ≤ x27 then (if x27 < (x25.length : Int) then (if x6.length + (rd_L12 x25 x27).length < 17592186044416 then (api_Leak_70.l1 k (x6 ++ (rd_L12 x25 x27)) x25 x26 (wrap64 (x27 + 1))) else (none)) else (none)) else (none)) else (some x6)
end
def api_Leak_70.f (k : Nat) (l0 : List (List (S85))) : Option ((List (S85))) := api_Leak_70.l0 k l0 0 l0 (l0.length : Int) 0
set_option maxHeartbeats 8000000 in
set_option maxRecDepth 100000 in
theorem api_Leak_70.calls (k : Nat) (A0 : Option Addr) (c0 : Nat) (l0 : List (List (S85))) (r : List (S85)) (w : World) (hr0 : Kd.C (Kd.slice 85 k85) w A0 l0.length l0) (hc0 : l0.length ≤ c0) (h : api_Leak_70.f k l0 = some r) :
  Calls Try.prog 70 #[.slice A0 l0.length c0] w fun e w' => ∃ v0_ : Value, e = .returned (v0_) ∧ Kd.R k85 85 w' w.heap.size (fun _ => True) v0_ r ∧ Below w.heap.size w w' := by
 have HR0 := Aside0.mk hr0
 have HC0 := Aside0.mk hc0
 clear hr0 hc0
 have HB := Aside0.mk (Below.refl w.heap.size w)
 have H : (api_Leak_70.l0 k l0 0 l0 (l0.length : Int) 0) = some r := h
 clear h
 have H' := Aside0.mk H
 clear H
 go_enter Try.func70, Try.ntmps70
 go_wp2
 go_loopg [3, 11] k (fun kq v3 v11 w' => ∃ (x3_1 : Int) (x11_1 : Int), v3 = .int .i64 x3_1 ∧ v11 = .int .i64 x11_1 ∧ Aside0 (api_Leak_70.l0 kq l0 x3_1 l0 (l0.length : Int) x11_1 = some r) ∧ Aside0 (kq ≤ k) ∧ Aside0 (Below w.heap.size w w'))
 case atStart => exact ⟨(0), (0), sD_, sD_, H', ⟨Nat.le_refl _⟩, ⟨hB_⟩⟩
 case round =>
  clear H'
  obtain ⟨x3_1, x11_1, rfl, rfl, HA, HK1, HB⟩ := hrel
  cases gk with
  | zero => exact absurd HA.out (by simp [api_Leak_70.l0])
  | succ k1 =>
   have H := HA.out
   clear HA
   simp only [api_Leak_70.l0] at H
   by_cases c2 : x11_1 < (l0.length : Int)
   ·
    rw [if_pos c2] at H
    have c2b0 : decide (x11_1 < (l0.length : Int)) = true := decide_eq_true c2
    clear c2
    by_cases c3 : 0 ≤ x11_1
    ·
     rw [if_pos c3] at H
     have c3b0 : decide (0 ≤ x11_1) = true := decide_eq_true c3
     clear c3
     by_cases c4 : x11_1 < (l0.length : Int)
     ·
      rw [if_pos c4] at H
      have c4b0 : decide (x11_1 < (l0.length : Int)) = true := decide_eq_true c4
      clear c4
      by_cases c5 : (wrap64 (x3_1 + ((rd_L12 l0 x11_1).length : Int))) < 0
      ·
       rw [if_pos c5] at H
       exact absurd H (by simp)
      ·
       rw [if_neg c5] at H
       have c5b0 : decide ((wrap64 (x3_1 + ((rd_L12 l0 x11_1).length : Int))) < 0) = false := decide_eq_false c5
       clear c5
       have H' := Aside0.mk H
       clear H
       have p250 : 0 ≤ (x11_1 : Int) := of_decide_eq_true aS_
       have q250 : x11_1 < (l0.length : Int) := of_decide_eq_true aS_
       obtain ⟨ad250, A250_0, c250_0, e250, hx250_0, hl250_0, hi250_0⟩ := at_L12 HR0.out x11_1 p250 q250
       cases e250
       replace hx250_0 := (HB.out.cell (World.block_lt_of_cell? w _ hx250_0)).trans hx250_0
       have HR250_0 := Aside0.mk hi250_0
       have HC250_0 := Aside0.mk hl250_0
       clear hi250_0 hl250_0
       replace p250 := eq_true p250
       replace q250 := eq_true q250
       go_wp2
       go_roundg k1
       case measure => have := HK1.out; omega
       case rel => exact ⟨(wrap64 (x3_1 + ((rd_L12 l0 x11_1).length : Int))), (wrap64 (x11_1 + 1)), sD_, sD_, H', ⟨by have := HK1.out; omega⟩, ⟨hB_⟩⟩
     ·
      rw [if_neg c4] at H
      exact absurd H (by simp)
    ·
     rw [if_neg c3] at H
     exact absurd H (by simp)
   ·
    rw [if_neg c2] at H
    have c2b0 : decide (x11_1 < (l0.length : Int)) = false := decide_eq_false c2
    clear c2
    replace H := Option.bind_eq_some_iff.mp H
    obtain ⟨t251, A60, H⟩ := H
    replace H : (api_Leak_70.l1 k1 t251 l0 (l0.length : Int) 0) = some r := H
    have A6 := Aside0.mk A60
    clear A60
    have H' := Aside0.mk H
    clear H
    go_wp2_with (first | ((with_reducible refine gate_callee (f := 80) rfl ?_); refine goesL_ (some 24) rfl rfl Try.func80 (by kernel_rfl) rfl #[.slice none 0 0, .int .i64 x3_1] rfl mD_ ?_; (refine (api_Leak_80.calls _ _ ([] : List (S85)) x3_1 t251 _ ?side1 ?side2 A6.out).mono ?_); (case side1 => exact Kd.C_nil _ _); (case side2 => exact Nat.le_refl _); rintro e w7 ⟨v252, rfl, ho0, hb⟩; refine ⟨_, rfl, ?_⟩; have n0_ := Aside0.mk (Kd.R_lower ho0 (below_size hB_)); have n1_ := Aside0.mk (below_step hB_ hb); clear HB; have HO253 := n0_; have HB := n1_; clear n0_ n1_; (try clear hb); (try clear hb2); (try clear hk); (try clear hi); (try clear ho0)))
    go_loopg [6, 27] k1 (fun kq v6 v27 w' => ∃ (x6_2 : List (S85)) (x27_2 : Int), v27 = .int .i64 x27_2 ∧ Aside0 (api_Leak_70.l1 kq x6_2 l0 (l0.length : Int) x27_2 = some r) ∧ Aside0 (kq ≤ k1) ∧ Aside0 (Kd.R k85 85 w' w.heap.size (fun _ => True) v6 x6_2) ∧ Aside0 (Below w.heap.size w w'))
    case atStart => exact ⟨(t251), (0), sD_, H', ⟨Nat.le_refl _⟩, ⟨by (with_reducible repeat (first | apply Kd.R_alloc | apply Kd.R_drewN | apply Kd.R_drew)); exact HO253.out⟩, ⟨hB_⟩⟩
    case round =>
     clear H'
     try clear c2
     try clear c2b0
     try clear p2
     try clear q2
     try clear hx2
     try clear c3
     try clear c3b0
     try clear c4
     try clear c4b0
     try clear c5
     try clear c5b0
     try clear p6
     try clear c7
     try clear hx250_0
     try clear p250
     try clear q250
     obtain ⟨x6_2, x27_2, rfl, HA, HK2, HO_6, HB⟩ := hrel
     cases gk with
     | zero => exact absurd HA.out (by simp [api_Leak_70.l1])
     | succ k2 =>
      have H := HA.out
      clear HA
      simp only [api_Leak_70.l1] at H
      by_cases c8 : x27_2 < (l0.length : Int)
      ·
       rw [if_pos c8] at H
       have c8b0 : decide (x27_2 < (l0.length : Int)) = true := decide_eq_true c8
       clear c8
       by_cases c9 : 0 ≤ x27_2
       ·
        rw [if_pos c9] at H
        have c9b0 : decide (0 ≤ x27_2) = true := decide_eq_true c9
        clear c9
        by_cases c10 : x27_2 < (l0.length : Int)
        ·
         rw [if_pos c10] at H
         have c10b0 : decide (x27_2 < (l0.length : Int)) = true := decide_eq_true c10
         clear c10
         by_cases c11 : x6_2.length + (rd_L12 l0 x27_2).length < 17592186044416
         ·
          rw [if_pos c11] at H
          have LMc11 := Aside0.mk c11
          clear c11
          obtain ⟨y255, hy255⟩ : ∃ y_ : List (S85), y_ = (x6_2 ++ (rd_L12 l0 x27_2)) := ⟨_, rfl⟩
          replace H : (api_Leak_70.l1 k2 y255 l0 (l0.length : Int) (wrap64 (x27_2 + 1))) = some r := by first | (rw [hy255]; with_reducible exact H) | (have H2_ := (Option.bind_some _ _).symm.trans H; rw [hy255]; with_reducible exact H2_) | (have H2_ := (Option.bind_some _ _).symm.trans H; with_reducible exact H2_) | with_reducible exact H | (rw [hy255]; exact H) | exact H
          have Ny255 := Aside0.mk hy255
          clear hy255
          have H' := Aside0.mk H
          clear H
          have p254 : 0 ≤ (x27_2 : Int) := of_decide_eq_true aS_
          have q254 : x27_2 < (l0.length : Int) := of_decide_eq_true aS_
          obtain ⟨ad254, A254_0, c254_0, e254, hx254_0, hl254_0, hi254_0⟩ := at_L12 HR0.out x27_2 p254 q254
          cases e254
          replace hx254_0 := (HB.out.cell (World.block_lt_of_cell? w _ hx254_0)).trans hx254_0
          have HR254_0 := Aside0.mk hi254_0
          have HC254_0 := Aside0.mk hl254_0
          clear hi254_0 hl254_0
          replace p254 := eq_true p254
          replace q254 := eq_true q254
          go_wp2_with (first | ((with_reducible refine gate_builtin (b := .append) (xs := #[.tmp 31, .tmp 32]) rfl ?_); at_builtin; refine Kd.R_append_rows k85 (w0 := w) w.heap.size rfl (.tmp 31) (.tmp 32) 37 85 (.agg #[(.int .u32 0), (.int .u32 0)]) 8 rfl Try.underlying37 info85 rfl (by decide) (by omega) u6 x6_2 (rd_L12 l0 x27_2) _ _ _ (fun _ => True) (fun _ => False) rfl rfl ?aO ?aR (fun _ _ h => h) (fun _ h => h.elim) ?aF ?aB ?aS ?aL ?_; (case aR => repeat (first | exact (Kd.C_below HR254_0.out HB.out) | (with_reducible refine Kd.C_alloc ?_ _) | (with_reducible refine Kd.C_drewN ?_ _) | (with_reducible refine Kd.C_drew ?_))); (case aB => exact hB_); (case aF => exact (fun _ _ => trivial)); (case aO => exact (by (with_reducible repeat (first | apply Kd.R_alloc | apply Kd.R_drewN | apply Kd.R_drew)); exact HO_6.out)); (case aS => exact (below_size hB_)); (case aL => have := LMc11.out; omega); intro v256 w12 ho hb hg hat; rw [← Ny255.out] at ho; have n0_ := Aside0.mk (hb); have n1_ := Aside0.mk (ho); clear HB; clear HO_6; have HB := n0_; have HO257 := n1_; clear n0_ n1_; clear ho hb hg hat))
          go_roundg k2
          case measure => have := HK1.out; have := HK2.out; omega
          case rel => exact ⟨(y255), (wrap64 (x27_2 + 1)), sD_, H', ⟨by have := HK1.out; have := HK2.out; omega⟩, ⟨by (with_reducible repeat (first | apply Kd.R_alloc | apply Kd.R_drewN | apply Kd.R_drew)); exact HO257.out⟩, ⟨hB_⟩⟩
         ·
          rw [if_neg c11] at H
          exact absurd H (by simp)
        ·
         rw [if_neg c10] at H
         exact absurd H (by simp)
       ·
        rw [if_neg c9] at H
        exact absurd H (by simp)
      ·
       rw [if_neg c8] at H
       have c8b0 : decide (x27_2 < (l0.length : Int)) = false := decide_eq_false c8
       clear c8
       obtain rfl := Option.some.inj H
       go_wp2
       go_ret
       exact ⟨_, eW_, by (with_reducible repeat (first | apply Kd.R_alloc | apply Kd.R_drewN | apply Kd.R_drew)); exact HO_6.out, hB_⟩

/-! ### word_Cut: function 72 -/
def word_Cut.f (l0 : List Int) (a1 : Int) (a2 : Int) : Option (List Int × Bool) := if a1 < 0 then (some (([] : List Int), false)) else (if a2 < a1 then (some (([] : List Int), false)) else (if a2 > (l0.length : Int) then (some (([] : List Int), false)) else (if 0 ≤ a1 then (if a1 ≤ a2 then (if a2 ≤ (l0.length : Int) then ((slices_Clone_uint32_uint32_61.f ((l0.take (a2 : Int).toNat).drop (a1 : Int).toNat)).bind fun t259 => (some (t259, true))) else (none)) else (none)) else (none))))
set_option maxHeartbeats 8000000 in
set_option maxRecDepth 100000 in
theorem word_Cut.calls (A0 : Option Addr) (c0 : Nat) (l0 : List Int) (a1 : Int) (a2 : Int) (r1 : List Int) (r2 : Bool) (w : World) (hr0 : Kd.C (Kd.int .u32) w A0 l0.length l0) (hc0 : l0.length ≤ c0) (h : word_Cut.f l0 a1 a2 = some (r1, r2)) :
  Calls Try.prog 72 #[.slice A0 l0.length c0, .int .i64 a1, .int .i64 a2] w fun e w' => ∃ v0_ : Value, e = .returned (.tuple #[v0_, .bool r2]) ∧ Kd.R (Kd.int .u32) 22 w' w.heap.size (fun _ => True) v0_ r1 ∧ Below w.heap.size w w' := by
 have HR0 := Aside0.mk hr0
 have HC0 := Aside0.mk hc0
 clear hr0 hc0
 have HB := Aside0.mk (Below.refl w.heap.size w)
 have H : (if a1 < 0 then (some (([] : List Int), false)) else (if a2 < a1 then (some (([] : List Int), false)) else (if a2 > (l0.length : Int) then (some (([] : List Int), false)) else (if 0 ≤ a1 then (if a1 ≤ a2 then (if a2 ≤ (l0.length : Int) then ((slices_Clone_uint32_uint32_61.f ((l0.take (a2 : Int).toNat).drop (a1 : Int).toNat)).bind fun t259 => (some (t259, true))) else (none)) else (none)) else (none))))) = some (r1, r2) := h
 clear h
 by_cases c4 : a1 < 0
 ·
  rw [if_pos c4] at H
  have c4b0 : decide (a1 < 0) = true := decide_eq_true c4
  clear c4
  simp only [Option.some.injEq, Prod.mk.injEq] at H
  obtain ⟨rfl, rfl⟩ := H
  go_enter Try.func72, Try.ntmps72
  go_wp2
  go_ret2
  exact ⟨_, eW_, by first | exact Kd.R_nil _ _ _ _ _ | exact Kd.N_nil _ _ _ _ _ | exact Kd.V_nil _ _ _ _ _ | exact Kd.Q_nil _ _ _ _ _ | exact Kd.S_nil _ _ _ _ _, hB_⟩
 ·
  rw [if_neg c4] at H
  have c4b0 : decide (a1 < 0) = false := decide_eq_false c4
  clear c4
  by_cases c5 : a2 < a1
  ·
   rw [if_pos c5] at H
   have c5b0 : decide (a2 < a1) = true := decide_eq_true c5
   clear c5
   simp only [Option.some.injEq, Prod.mk.injEq] at H
   obtain ⟨rfl, rfl⟩ := H
   go_enter Try.func72, Try.ntmps72
   go_wp2
   go_ret2
   exact ⟨_, eW_, by first | exact Kd.R_nil _ _ _ _ _ | exact Kd.N_nil _ _ _ _ _ | exact Kd.V_nil _ _ _ _ _ | exact Kd.Q_nil _ _ _ _ _ | exact Kd.S_nil _ _ _ _ _, hB_⟩
  ·
   rw [if_neg c5] at H
   have c5b0 : decide (a2 < a1) = false := decide_eq_false c5
   clear c5
   by_cases c6 : a2 > (l0.length : Int)
   ·
    rw [if_pos c6] at H
    have c6b0 : decide ((l0.length : Int) < a2) = true := decide_eq_true c6
    clear c6
    simp only [Option.some.injEq, Prod.mk.injEq] at H
    obtain ⟨rfl, rfl⟩ := H
    go_enter Try.func72, Try.ntmps72
    go_wp2
    go_ret2
    exact ⟨_, eW_, by first | exact Kd.R_nil _ _ _ _ _ | exact Kd.N_nil _ _ _ _ _ | exact Kd.V_nil _ _ _ _ _ | exact Kd.Q_nil _ _ _ _ _ | exact Kd.S_nil _ _ _ _ _, hB_⟩
   ·
    rw [if_neg c6] at H
    have c6b0 : decide ((l0.length : Int) < a2) = false := decide_eq_false c6
    clear c6
    by_cases c7 : 0 ≤ a1
    ·
     rw [if_pos c7] at H
     have c7b0 := eq_true c7
     have c7b1 : decide (0 ≤ a1) = true := decide_eq_true c7
     clear c7
     by_cases c8 : a1 ≤ a2
     ·
      rw [if_pos c8] at H
      have c8b0 := eq_true c8
      have c8b1 : decide (a1 ≤ a2) = true := decide_eq_true c8
      clear c8
      by_cases c9 : a2 ≤ (l0.length : Int)
      ·
       rw [if_pos c9] at H
       have c9b0 := eq_true c9
       have c9b1 : decide (a2 ≤ (l0.length : Int)) = true := decide_eq_true c9
       clear c9
       replace H := Option.bind_eq_some_iff.mp H
       obtain ⟨t259, A100, H⟩ := H
       replace H : (some (t259, true)) = some (r1, r2) := H
       have A10 := Aside0.mk A100
       clear A100
       simp only [Option.some.injEq, Prod.mk.injEq] at H
       obtain ⟨rfl, rfl⟩ := H
       obtain ⟨i011, hi011, _, hsz11, _⟩ := info_parts info22
       obtain ⟨A11, hcut11, hA11, hC11⟩ := print_mid_of (P := Try.prog) (Value.int .u32) 0 25 22 .i64 .i64 Try.underlying25 hi011 hsz11 A0 c0 l0 a1 a2 (of_decide_eq_true aS_) (by first | omega | exact of_decide_eq_true aS_) (of_decide_eq_true aS_) HC0.out
       have HR258 := Aside0.mk (Kd.C_of_reads (h1 := fun _ => rfl) (hA11 _ (Kd.reads_of_C HR0.out)))
       have HC258 := Aside0.mk hC11
       clear hA11 hC11 hi011 hsz11
       go_enter Try.func72, Try.ntmps72
       go_wp2_with (first | ((with_reducible refine gate_callee (f := 61) rfl ?_); refine goesL_ (some 25) rfl rfl Try.func61 (by kernel_rfl) rfl #[.slice A11 ((l0.take (a2 : Int).toNat).drop (a1 : Int).toNat).length (c0 - a1.toNat)] rfl (by (try simp only [List.map_toArray, List.map_cons, List.map_nil]); first | done | (rw [show ((l0.take (a2 : Int).toNat).drop (a1 : Int).toNat).length = (a2.toNat - a1.toNat) from (by rw [List.length_drop, List.length_take]; have h_ : (a2 : Int) ≤ (l0.length : Int) := of_decide_eq_true aS_; omega)] <;> rfl) | rfl | (simp only [List.length_drop, List.length_take]; rfl)) ?_; (with_reducible refine (slices_Clone_uint32_uint32_61.calls _ _ ((l0.take (a2 : Int).toNat).drop (a1 : Int).toNat) t259 _ ?side1 ?side2 A10.out).mono ?_); (case side1 => repeat (first | exact HR258.out | (with_reducible refine Kd.C_alloc ?_ _) | (with_reducible refine Kd.C_drewN ?_ _) | (with_reducible refine Kd.C_drew ?_))); (case side2 => exact HC258.out); rintro e w12 ⟨v260, rfl, ho0, hb⟩; refine ⟨_, rfl, ?_⟩; have n0_ := Aside0.mk (Kd.R_lower ho0 (below_size hB_)); have n1_ := Aside0.mk (below_step hB_ hb); clear HB; have HO261 := n0_; have HB := n1_; clear n0_ n1_; (try clear hb); (try clear hb2); (try clear hk); (try clear hi); (try clear ho0)))
       go_ret2
       exact ⟨_, eW_, by (with_reducible repeat (first | apply Kd.R_alloc | apply Kd.R_drewN | apply Kd.R_drew)); exact HO261.out, hB_⟩
      ·
       rw [if_neg c9] at H
       exact absurd H (by simp)
     ·
      rw [if_neg c8] at H
      exact absurd H (by simp)
    ·
     rw [if_neg c7] at H
     exact absurd H (by simp)

/-! ### slices_Grow_uint32_uint32: function 73 -/
def slices_Grow_uint32_uint32.f (l0 : List Int) (a1 : Int) : Option (List Int) := if a1 < 0 then (none) else (if (l0.length : Int) > 0 then (none) else (if a1 > 0 then (if 0 ≤ a1 then (if ([] : List Int).length + (a1 : Int).toNat < 35184372088832 then ((some (([] : List Int) ++ List.replicate (a1 : Int).toNat 0 : List Int)).bind fun y262 => (if 0 ≤ (y262.length : Int) then (some (y262.take (0 : Int).toNat)) else (none))) else (none)) else (none)) else (some ([] : List Int))))
set_option maxHeartbeats 8000000 in
set_option maxRecDepth 100000 in
theorem slices_Grow_uint32_uint32.calls (A0 : Option Addr) (c0 : Nat) (l0 : List Int) (a1 : Int) (r : List Int) (w : World) (hr0 : Kd.C (Kd.int .u32) w A0 l0.length l0) (hc0 : l0.length ≤ c0) (h : slices_Grow_uint32_uint32.f l0 a1 = some r) (hA : A0 = none := by rfl) (hcap : c0 = 0 := by rfl) :
  Calls Try.prog 73 #[.slice A0 l0.length c0, .int .i64 a1] w fun e w' => ∃ v0_ : Value, e = .returned (v0_) ∧ Kd.R (Kd.int .u32) 22 w' w.heap.size (fun _ => True) v0_ r ∧ Below w.heap.size w w' := by
 subst hA hcap
 have hl0 : l0 = [] := by
  rcases l0 with _ | ⟨y, ys⟩
  ·
   rfl
  ·
   obtain ⟨ad, had, _⟩ := hr0.2.2 (by simp)
   cases had
 subst hl0
 have HR0 := Aside0.mk hr0
 have HC0 := Aside0.mk hc0
 clear hr0 hc0
 have HB := Aside0.mk (Below.refl w.heap.size w)
 have H : (if a1 < 0 then (none) else (if (([] : List Int).length : Int) > 0 then (none) else (if a1 > 0 then (if 0 ≤ a1 then (if ([] : List Int).length + (a1 : Int).toNat < 35184372088832 then ((some (([] : List Int) ++ List.replicate (a1 : Int).toNat 0 : List Int)).bind fun y262 => (if 0 ≤ (y262.length : Int) then (some (y262.take (0 : Int).toNat)) else (none))) else (none)) else (none)) else (some ([] : List Int))))) = some r := h
 clear h
 by_cases c3 : a1 < 0
 ·
  rw [if_pos c3] at H
  exact absurd H (by simp)
 ·
  rw [if_neg c3] at H
  have c3b0 : decide (a1 < 0) = false := decide_eq_false c3
  clear c3
  by_cases c4 : (([] : List Int).length : Int) > 0
  ·
   rw [if_pos c4] at H
   exact absurd H (by simp)
  ·
   rw [if_neg c4] at H
   have c4b0 : decide (0 < (([] : List Int).length : Int)) = false := decide_eq_false c4
   have c4b1 : decide (0 < ([] : List Int).length) = false := decide_eq_false (by omega)
   clear c4
   by_cases c5 : a1 > 0
   ·
    rw [if_pos c5] at H
    have c5b0 : decide (0 < a1) = true := decide_eq_true c5
    clear c5
    by_cases c6 : 0 ≤ a1
    ·
     rw [if_pos c6] at H
     have c6b0 := eq_true c6
     have c6b1 : decide (0 ≤ a1) = true := decide_eq_true c6
     clear c6
     by_cases c7 : ([] : List Int).length + (a1 : Int).toNat < 35184372088832
     ·
      rw [if_pos c7] at H
      have LMc7 := Aside0.mk c7
      clear c7
      obtain ⟨y262, hy262⟩ : ∃ y_ : List Int, y_ = (([] : List Int) ++ List.replicate (a1 : Int).toNat 0) := ⟨_, rfl⟩
      replace H : (if 0 ≤ (y262.length : Int) then (some (y262.take (0 : Int).toNat)) else (none)) = some r := by first | (rw [hy262]; with_reducible exact H) | (have H2_ := (Option.bind_some _ _).symm.trans H; rw [hy262]; with_reducible exact H2_) | (have H2_ := (Option.bind_some _ _).symm.trans H; with_reducible exact H2_) | with_reducible exact H | (rw [hy262]; exact H) | exact H
      have Ny262 := Aside0.mk hy262
      clear hy262
      by_cases c8 : 0 ≤ (y262.length : Int)
      ·
       rw [if_pos c8] at H
       have c8b0 := eq_true c8
       have c8b1 : decide (0 ≤ (y262.length : Int)) = true := decide_eq_true c8
       clear c8
       obtain ⟨y265, hy265⟩ : ∃ y_ : List Int, y_ = (y262.take (0 : Int).toNat) := ⟨_, rfl⟩
       replace H : (some y265) = some r := by first | (rw [hy265]; with_reducible exact H) | (have H2_ := (Option.bind_some _ _).symm.trans H; rw [hy265]; with_reducible exact H2_) | (have H2_ := (Option.bind_some _ _).symm.trans H; with_reducible exact H2_) | with_reducible exact H | (rw [hy265]; exact H) | exact H
       have Ny265 := Aside0.mk hy265
       clear hy265
       obtain rfl := Option.some.inj H
       have hhi : a1 ≤ 35184372088832 := by have := LMc7.out; simp only [List.length_nil] at this; omega
       have hlo : 0 ≤ a1 := of_decide_eq_true c6b1
       show Calls Try.prog 73 #[.slice none 0 0, .int .i64 a1] w _
       go_enter Try.func73, Try.ntmps73
       go_wp2_with (first | (at_builtin; refine Kd.R_append_zeros (Kd.int .u32) (w0 := w) w.heap.size rfl (.tmp 20) (.tmp 21) 25 3 22 (.int .u32 0) 4 rfl Try.underlying25 Try.underlying3 info22 rfl (by decide) (by omega) (.slice none 0 0) ([] : List Int) 0 (a1 : Int) (fun _ => True) rfl rfl rfl ?aF ?aO (of_decide_eq_true aS_) ?aB ?aS ?aL ?_; (case aB => exact hB_); (case aF => exact (fun _ _ => trivial)); (case aO => exact ((Kd.R_nil _ _ _ _ (fun _ => True)))); (case aS => exact (below_size hB_)); (case aL => have := LMc7.out; omega); intro v263 w9 ho hb hg hat; rw [← Ny262.out] at ho; have n0_ := Aside0.mk (hb); have n1_ := Aside0.mk (ho); clear HB; have HB := n0_; have HO264 := n1_; clear n0_ n1_; clear ho hb hg hat; obtain ⟨Ao10, co10, eo10⟩ := Kd.R_slice HO264.out; subst eo10; have q11 : (0 : Int) ≤ ((y262.length : Int) : Int) := of_decide_eq_true aS_; obtain ⟨i011, hi011, _, hsz11, _⟩ := info_parts info22; have hcut11 := cut_to (P := Try.prog) 25 22 .i64 Try.underlying25 hi011 Ao10 y262.length co10 0 (by omega) q11 (Kd.R_reads' HO264.out).2.1; have hr11 := Kd.R_take (m := (0 : Int).toNat) HO264.out (by omega); have hy11 : y265.length = (0 : Int).toNat := (by rw [Ny265.out, List.length_take]; omega); rw [← Ny265.out] at hr11; rw [← hy11] at hr11 hcut11; clear hy11 hi011 hsz11 HO264; have HO267 := Aside0.mk hr11; clear hr11; replace q11 := eq_true q11))
       go_ret
       exact ⟨_, eW_, by (with_reducible repeat (first | apply Kd.R_alloc | apply Kd.R_drewN | apply Kd.R_drew)); exact HO267.out, hB_⟩
      ·
       rw [if_neg c8] at H
       exact absurd H (by simp)
     ·
      rw [if_neg c7] at H
      exact absurd H (by simp)
    ·
     rw [if_neg c6] at H
     exact absurd H (by simp)
   ·
    rw [if_neg c5] at H
    have c5b0 : decide (0 < a1) = false := decide_eq_false c5
    clear c5
    obtain rfl := Option.some.inj H
    have ha1 : a1 = 0 := by have q1 := of_decide_eq_false c3b0; have q2 := of_decide_eq_false c5b0; omega
    clear c3b0 c5b0 c4b0 c4b1
    subst ha1
    show Calls Try.prog 73 #[.slice none 0 0, .int .i64 0] w _
    go_enter Try.func73, Try.ntmps73
    go_wp2
    go_ret
    exact ⟨_, eW_, by first | exact Kd.R_nil _ _ _ _ _ | exact Kd.N_nil _ _ _ _ _ | exact Kd.V_nil _ _ _ _ _ | exact Kd.Q_nil _ _ _ _ _ | exact Kd.S_nil _ _ _ _ _, hB_⟩

/-! ### slices_Concat_uint32_uint32: function 63 -/
mutual
def slices_Concat_uint32_uint32.l0 : Nat → List (List Int) → Int → List (List Int) → Int → Int → Option (List Int)
 | 0, _, _, _, _, _ => none
 | k + 1, x0, x3, x9, x10, x11 => if x11 < x10 then (if 0 ≤ x11 then (if x11 < (x9.length : Int) then (if (wrap64 (x3 + ((rd_L1 x9 x11).length : Int))) < 0 then (none) else (slices_Concat_uint32_uint32.l0 k x0 (wrap64 (x3 + ((rd_L1 x9 x11).length : Int))) x9 x10 (wrap64 (x11 + 1)))) else (none)) else (none)) else ((slices_Grow_uint32_uint32.f ([] : List Int) x3).bind fun t269 => (slices_Concat_uint32_uint32.l1 k t269 x0 (x0.length : Int) 0))
def slices_Concat_uint32_uint32.l1 : Nat → List Int → List (List Int) → Int → Int → Option (List Int)
 | 0, _, _, _, _ => none
 | k + 1, x6, x25, x26, x27 => if x27 < x26 then (if 0 ≤ x27 then (if x27 < (x25.length : Int) then (if x6.length + (rd_L1 x25 x27).length < 35184372088832 then (slices_Concat_uint32_uint32.l1 k (x6 ++ (rd_L1 x25 x27)) x25 x26 (wrap64 (x27 + 1))) else (none)) else (none)) else (none)) else (some x6)
end
def slices_Concat_uint32_uint32.f (k : Nat) (l0 : List (List Int)) : Option (List Int) := slices_Concat_uint32_uint32.l0 k l0 0 l0 (l0.length : Int) 0
set_option maxHeartbeats 8000000 in
set_option maxRecDepth 100000 in
theorem slices_Concat_uint32_uint32.calls (k : Nat) (A0 : Option Addr) (c0 : Nat) (l0 : List (List Int)) (r : List Int) (w : World) (hr0 : Kd.C (Kd.slice 22 (Kd.int .u32)) w A0 l0.length l0) (hc0 : l0.length ≤ c0) (h : slices_Concat_uint32_uint32.f k l0 = some r) :
  Calls Try.prog 63 #[.slice A0 l0.length c0] w fun e w' => ∃ v0_ : Value, e = .returned (v0_) ∧ Kd.R (Kd.int .u32) 22 w' w.heap.size (fun _ => True) v0_ r ∧ Below w.heap.size w w' := by
 have HR0 := Aside0.mk hr0
 have HC0 := Aside0.mk hc0
 clear hr0 hc0
 have HB := Aside0.mk (Below.refl w.heap.size w)
 have H : (slices_Concat_uint32_uint32.l0 k l0 0 l0 (l0.length : Int) 0) = some r := h
 clear h
 have H' := Aside0.mk H
 clear H
 go_enter Try.func63, Try.ntmps63
 go_wp2
 go_loopg [3, 11] k (fun kq v3 v11 w' => ∃ (x3_1 : Int) (x11_1 : Int), v3 = .int .i64 x3_1 ∧ v11 = .int .i64 x11_1 ∧ Aside0 (slices_Concat_uint32_uint32.l0 kq l0 x3_1 l0 (l0.length : Int) x11_1 = some r) ∧ Aside0 (kq ≤ k) ∧ Aside0 (Below w.heap.size w w'))
 case atStart => exact ⟨(0), (0), sD_, sD_, H', ⟨Nat.le_refl _⟩, ⟨hB_⟩⟩
 case round =>
  clear H'
  obtain ⟨x3_1, x11_1, rfl, rfl, HA, HK1, HB⟩ := hrel
  cases gk with
  | zero => exact absurd HA.out (by simp [slices_Concat_uint32_uint32.l0])
  | succ k1 =>
   have H := HA.out
   clear HA
   simp only [slices_Concat_uint32_uint32.l0] at H
   by_cases c2 : x11_1 < (l0.length : Int)
   ·
    rw [if_pos c2] at H
    have c2b0 : decide (x11_1 < (l0.length : Int)) = true := decide_eq_true c2
    clear c2
    by_cases c3 : 0 ≤ x11_1
    ·
     rw [if_pos c3] at H
     have c3b0 : decide (0 ≤ x11_1) = true := decide_eq_true c3
     clear c3
     by_cases c4 : x11_1 < (l0.length : Int)
     ·
      rw [if_pos c4] at H
      have c4b0 : decide (x11_1 < (l0.length : Int)) = true := decide_eq_true c4
      clear c4
      by_cases c5 : (wrap64 (x3_1 + ((rd_L1 l0 x11_1).length : Int))) < 0
      ·
       rw [if_pos c5] at H
       exact absurd H (by simp)
      ·
       rw [if_neg c5] at H
       have c5b0 : decide ((wrap64 (x3_1 + ((rd_L1 l0 x11_1).length : Int))) < 0) = false := decide_eq_false c5
       clear c5
       have H' := Aside0.mk H
       clear H
       have p268 : 0 ≤ (x11_1 : Int) := of_decide_eq_true aS_
       have q268 : x11_1 < (l0.length : Int) := of_decide_eq_true aS_
       obtain ⟨ad268, A268_0, c268_0, e268, hx268_0, hl268_0, hi268_0⟩ := at_L1 HR0.out x11_1 p268 q268
       cases e268
       replace hx268_0 := (HB.out.cell (World.block_lt_of_cell? w _ hx268_0)).trans hx268_0
       have HR268_0 := Aside0.mk hi268_0
       have HC268_0 := Aside0.mk hl268_0
       clear hi268_0 hl268_0
       replace p268 := eq_true p268
       replace q268 := eq_true q268
       go_wp2
       go_roundg k1
       case measure => have := HK1.out; omega
       case rel => exact ⟨(wrap64 (x3_1 + ((rd_L1 l0 x11_1).length : Int))), (wrap64 (x11_1 + 1)), sD_, sD_, H', ⟨by have := HK1.out; omega⟩, ⟨hB_⟩⟩
     ·
      rw [if_neg c4] at H
      exact absurd H (by simp)
    ·
     rw [if_neg c3] at H
     exact absurd H (by simp)
   ·
    rw [if_neg c2] at H
    have c2b0 : decide (x11_1 < (l0.length : Int)) = false := decide_eq_false c2
    clear c2
    replace H := Option.bind_eq_some_iff.mp H
    obtain ⟨t269, A60, H⟩ := H
    replace H : (slices_Concat_uint32_uint32.l1 k1 t269 l0 (l0.length : Int) 0) = some r := H
    have A6 := Aside0.mk A60
    clear A60
    have H' := Aside0.mk H
    clear H
    go_wp2_with (first | ((with_reducible refine gate_callee (f := 73) rfl ?_); refine goesL_ (some 24) rfl rfl Try.func73 (by kernel_rfl) rfl #[.slice none 0 0, .int .i64 x3_1] rfl mD_ ?_; (refine (slices_Grow_uint32_uint32.calls _ _ ([] : List Int) x3_1 t269 _ ?side1 ?side2 A6.out).mono ?_); (case side1 => exact Kd.C_nil _ _); (case side2 => exact Nat.le_refl _); rintro e w7 ⟨v270, rfl, ho0, hb⟩; refine ⟨_, rfl, ?_⟩; have n0_ := Aside0.mk (Kd.R_lower ho0 (below_size hB_)); have n1_ := Aside0.mk (below_step hB_ hb); clear HB; have HO271 := n0_; have HB := n1_; clear n0_ n1_; (try clear hb); (try clear hb2); (try clear hk); (try clear hi); (try clear ho0)))
    go_loopg [6, 27] k1 (fun kq v6 v27 w' => ∃ (x6_2 : List Int) (x27_2 : Int), v27 = .int .i64 x27_2 ∧ Aside0 (slices_Concat_uint32_uint32.l1 kq x6_2 l0 (l0.length : Int) x27_2 = some r) ∧ Aside0 (kq ≤ k1) ∧ Aside0 (Kd.R (Kd.int .u32) 22 w' w.heap.size (fun _ => True) v6 x6_2) ∧ Aside0 (Below w.heap.size w w'))
    case atStart => exact ⟨(t269), (0), sD_, H', ⟨Nat.le_refl _⟩, ⟨by (with_reducible repeat (first | apply Kd.R_alloc | apply Kd.R_drewN | apply Kd.R_drew)); exact HO271.out⟩, ⟨hB_⟩⟩
    case round =>
     clear H'
     try clear c2
     try clear c2b0
     try clear p2
     try clear q2
     try clear hx2
     try clear c3
     try clear c3b0
     try clear c4
     try clear c4b0
     try clear c5
     try clear c5b0
     try clear c6
     try clear p6
     try clear c7
     try clear hx268_0
     try clear p268
     try clear q268
     obtain ⟨x6_2, x27_2, rfl, HA, HK2, HO_6, HB⟩ := hrel
     cases gk with
     | zero => exact absurd HA.out (by simp [slices_Concat_uint32_uint32.l1])
     | succ k2 =>
      have H := HA.out
      clear HA
      simp only [slices_Concat_uint32_uint32.l1] at H
      by_cases c8 : x27_2 < (l0.length : Int)
      ·
       rw [if_pos c8] at H
       have c8b0 : decide (x27_2 < (l0.length : Int)) = true := decide_eq_true c8
       clear c8
       by_cases c9 : 0 ≤ x27_2
       ·
        rw [if_pos c9] at H
        have c9b0 : decide (0 ≤ x27_2) = true := decide_eq_true c9
        clear c9
        by_cases c10 : x27_2 < (l0.length : Int)
        ·
         rw [if_pos c10] at H
         have c10b0 : decide (x27_2 < (l0.length : Int)) = true := decide_eq_true c10
         clear c10
         by_cases c11 : x6_2.length + (rd_L1 l0 x27_2).length < 35184372088832
         ·
          rw [if_pos c11] at H
          have LMc11 := Aside0.mk c11
          clear c11
          obtain ⟨y273, hy273⟩ : ∃ y_ : List Int, y_ = (x6_2 ++ (rd_L1 l0 x27_2)) := ⟨_, rfl⟩
          replace H : (slices_Concat_uint32_uint32.l1 k2 y273 l0 (l0.length : Int) (wrap64 (x27_2 + 1))) = some r := by first | (rw [hy273]; with_reducible exact H) | (have H2_ := (Option.bind_some _ _).symm.trans H; rw [hy273]; with_reducible exact H2_) | (have H2_ := (Option.bind_some _ _).symm.trans H; with_reducible exact H2_) | with_reducible exact H | (rw [hy273]; exact H) | exact H
          have Ny273 := Aside0.mk hy273
          clear hy273
          have H' := Aside0.mk H
          clear H
          have p272 : 0 ≤ (x27_2 : Int) := of_decide_eq_true aS_
          have q272 : x27_2 < (l0.length : Int) := of_decide_eq_true aS_
          obtain ⟨ad272, A272_0, c272_0, e272, hx272_0, hl272_0, hi272_0⟩ := at_L1 HR0.out x27_2 p272 q272
          cases e272
          replace hx272_0 := (HB.out.cell (World.block_lt_of_cell? w _ hx272_0)).trans hx272_0
          have HR272_0 := Aside0.mk hi272_0
          have HC272_0 := Aside0.mk hl272_0
          clear hi272_0 hl272_0
          replace p272 := eq_true p272
          replace q272 := eq_true q272
          go_wp2_with (first | ((with_reducible refine gate_builtin (b := .append) (xs := #[.tmp 31, .tmp 32]) rfl ?_); at_builtin; refine Kd.R_append_rows (Kd.int .u32) (w0 := w) w.heap.size rfl (.tmp 31) (.tmp 32) 25 22 (.int .u32 0) 4 rfl Try.underlying25 info22 rfl (by decide) (by omega) u6 x6_2 (rd_L1 l0 x27_2) _ _ _ (fun _ => True) (fun _ => False) rfl rfl ?aO ?aR (fun _ _ h => h) (fun _ h => h.elim) ?aF ?aB ?aS ?aL ?_; (case aR => repeat (first | exact (Kd.C_below HR272_0.out HB.out) | (with_reducible refine Kd.C_alloc ?_ _) | (with_reducible refine Kd.C_drewN ?_ _) | (with_reducible refine Kd.C_drew ?_))); (case aB => exact hB_); (case aF => exact (fun _ _ => trivial)); (case aO => exact (by (with_reducible repeat (first | apply Kd.R_alloc | apply Kd.R_drewN | apply Kd.R_drew)); exact HO_6.out)); (case aS => exact (below_size hB_)); (case aL => have := LMc11.out; omega); intro v274 w12 ho hb hg hat; rw [← Ny273.out] at ho; have n0_ := Aside0.mk (hb); have n1_ := Aside0.mk (ho); clear HB; clear HO_6; have HB := n0_; have HO275 := n1_; clear n0_ n1_; clear ho hb hg hat))
          go_roundg k2
          case measure => have := HK1.out; have := HK2.out; omega
          case rel => exact ⟨(y273), (wrap64 (x27_2 + 1)), sD_, H', ⟨by have := HK1.out; have := HK2.out; omega⟩, ⟨by (with_reducible repeat (first | apply Kd.R_alloc | apply Kd.R_drewN | apply Kd.R_drew)); exact HO275.out⟩, ⟨hB_⟩⟩
         ·
          rw [if_neg c11] at H
          exact absurd H (by simp)
        ·
         rw [if_neg c10] at H
         exact absurd H (by simp)
       ·
        rw [if_neg c9] at H
        exact absurd H (by simp)
      ·
       rw [if_neg c8] at H
       have c8b0 : decide (x27_2 < (l0.length : Int)) = false := decide_eq_false c8
       clear c8
       obtain rfl := Option.some.inj H
       go_wp2
       go_ret
       exact ⟨_, eW_, by (with_reducible repeat (first | apply Kd.R_alloc | apply Kd.R_drewN | apply Kd.R_drew)); exact HO_6.out, hB_⟩

/-! ### slices_Clone_uint32_uint32_23: function 23 -/
def slices_Clone_uint32_uint32_23.f (l0 : List (List Int)) : Option ((List (List Int))) := (some (([] : List (List Int)) : List (List Int))).bind fun y276 => (if y276.length + l0.length < 5864062014805 then (some (y276 ++ l0)) else (none))
set_option maxHeartbeats 8000000 in
set_option maxRecDepth 100000 in
theorem slices_Clone_uint32_uint32_23.calls (P0_ : Nat → Prop) (A0 : Option Addr) (c0 : Nat) (l0 : List (List Int)) (r : List (List Int)) (w : World) (hs0 : Kd.V (Kd.slice 22 (Kd.int .u32)) 25 w w.heap.size (fun k_ => P0_ k_) (.slice A0 l0.length c0) l0) (h : slices_Clone_uint32_uint32_23.f l0 = some r) :
  Calls Try.prog 23 #[.slice A0 l0.length c0] w fun e w' => ∃ v0_ : Value, e = .returned (v0_) ∧ Kd.N (Kd.slice 22 (Kd.int .u32)) 25 w' w.heap.size (fun k_ => (P0_ k_ ∨ w.heap.size ≤ k_)) v0_ r ∧ Below w.heap.size w w' := by
 rcases A0 with _ | x0
 ·
  have hl0 : l0 = [] := by
   rcases l0 with _ | ⟨y, ys⟩
   ·
    rfl
   ·
    obtain ⟨ad, had, _⟩ := (Kd.V_reads' hs0).2.2.2.2 (by simp)
    cases had
  subst hl0
  have hr : r = [] := by
   have h2 := h
   simp [slices_Clone_uint32_uint32_23.f] at h2
   exact h2
  subst hr
  clear h hs0
  have ke := fun (w : World) (a : Option Addr) (n c n' c' : Nat) => Lib.run_eql_slice_nil (P := Try.prog) w 32 25 a n c n' c' Try.underlying32
  go_enter Try.func23, Try.ntmps23
  go_wp2
  go_ret
  exact ⟨_, rfl, Kd.N_nil _ _ _ _ _, Below.refl _ _⟩
 have ke := fun (w : World) (n c n' c' : Nat) => Lib.run_eql_slice_nil (P := Try.prog) w 32 25 (some x0) n c n' c' Try.underlying32
 have HO0 := Aside0.mk (show Kd.V (Kd.slice 22 (Kd.int .u32)) 25 w w.heap.size (fun k_ => (P0_ k_ ∨ w.heap.size ≤ k_)) (.slice (some x0) l0.length c0) l0 from Kd.V_mono hs0 (fun k_ hk => .inl hk))
 have HB := Aside0.mk (Below.refl w.heap.size w)
 have H : ((some (([] : List (List Int)) : List (List Int))).bind fun y276 => (if y276.length + l0.length < 5864062014805 then (some (y276 ++ l0)) else (none))) = some r := h
 clear h
 obtain ⟨y276, hy276⟩ : ∃ y_ : List (List Int), y_ = (([] : List (List Int))) := ⟨_, rfl⟩
 replace H : (if y276.length + l0.length < 5864062014805 then (some (y276 ++ l0)) else (none)) = some r := by first | (rw [hy276]; with_reducible exact H) | (have H2_ := (Option.bind_some _ _).symm.trans H; rw [hy276]; with_reducible exact H2_) | (have H2_ := (Option.bind_some _ _).symm.trans H; with_reducible exact H2_) | with_reducible exact H | (rw [hy276]; exact H) | exact H
 have Ny276 := Aside0.mk hy276
 clear hy276
 by_cases c2 : y276.length + l0.length < 5864062014805
 ·
  rw [if_pos c2] at H
  have LMc2 := Aside0.mk c2
  clear c2
  obtain ⟨y279, hy279⟩ : ∃ y_ : List (List Int), y_ = (y276 ++ l0) := ⟨_, rfl⟩
  replace H : (some y279) = some r := by first | (rw [hy279]; with_reducible exact H) | (have H2_ := (Option.bind_some _ _).symm.trans H; rw [hy279]; with_reducible exact H2_) | (have H2_ := (Option.bind_some _ _).symm.trans H; with_reducible exact H2_) | with_reducible exact H | (rw [hy279]; exact H) | exact H
  have Ny279 := Aside0.mk hy279
  clear hy279
  obtain rfl := Option.some.inj H
  go_enter Try.func23, Try.ntmps23
  go_wp2_with (first | ((with_reducible refine gate_dst (N := 5) rfl ?_); refine Kd.N_lit (Kd.slice 22 (Kd.int .u32)) _ 25 ?hg (N' := 5) ?hd (xs := ([] : List (List Int))) (inner := []) (ok := (fun k_ => (P0_ k_ ∨ w.heap.size ≤ k_))) (okp := (fun k_ => (P0_ k_ ∨ w.heap.size ≤ k_))) ?hr ?hp (fun _ hk => hk) ((show ∀ k_, w.heap.size ≤ k_ → (fun k_ => (P0_ k_ ∨ w.heap.size ≤ k_)) k_ from fun k_ hk => (.inr (Nat.le_trans (below_size hB_) hk))) _ (Nat.le_refl _)) (Below.refl _ _) (Nat.le_refl _) (by simp) ?_; (case hd => rfl); (case hg => rfl); (case hr => first | (go_simp; done) | (go_simp; rfl)); (case hp => exact (Reps.none _ _)); intro v277 w3 ho4 hb hg_ hnew_; clear hg_ hnew_; (first | rw [← Ny276.out] at ho4 | (simp only [Int.reduceToNat] at ho4; rw [← Ny276.out] at ho4)); have n0_ := Aside0.mk (Kd.V_elder' (by (with_reducible repeat (first | apply Kd.V_alloc | apply Kd.V_drewN | apply Kd.V_drew)); exact HO0.out) (Kd.N_base ho4) hb); have n1_ := Aside0.mk (Kd.N_lower ho4 (below_size hB_)); have n2_ := Aside0.mk (below_step hB_ hb); clear HO0; clear HB; have HO0 := n0_; have HO278 := n1_; have HB := n2_; clear n0_ n1_ n2_; clear hb ho4) | ((with_reducible refine gate_builtin (b := .append) (xs := #[.tmp 5, .tmp 6]) rfl ?_); at_builtin; refine Kd.N_append_rows (Kd.slice 22 (Kd.int .u32)) (w0 := w) w.heap.size rfl (.tmp 5) (.tmp 6) 32 25 (.slice none 0 0) 24 rfl Try.underlying32 info25 rfl (by decide) (by omega) v277 y276 l0 _ _ _ (fun k_ => (P0_ k_ ∨ w.heap.size ≤ k_)) (fun k_ => ((fun k_ => (P0_ k_ ∨ w.heap.size ≤ k_))) k_ ∧ some k_ ≠ (v277 : Value).ownBlock) rfl rfl ?aO ?aR (fun _ hk => hk) ?aF ?aB ?aS ?aL ?_; (case aR => exact (by skip; exact Kd.V_F (Kd.V_mono (ok' := (fun k_ => ((fun k_ => (P0_ k_ ∨ w.heap.size ≤ k_))) k_ ∧ some k_ ≠ (v277 : Value).ownBlock)) (HO0.out) (fun k_ hk => ⟨hk.1, hk.2⟩)))); (case aB => exact hB_); (case aF => exact (fun k_ hk => (.inr (Nat.le_trans (below_size hB_) hk)))); (case aO => exact (by (with_reducible repeat (first | apply Kd.N_alloc | apply Kd.N_drewN | apply Kd.N_drew)); exact HO278.out)); (case aS => exact (below_size hB_)); (case aL => have := LMc2.out; omega); intro v280 w5 ho hb hg hat; rw [← Ny279.out] at ho; have n0_ := Aside0.mk (Kd.V_afterv (ok := (fun k_ => (P0_ k_ ∨ w.heap.size ≤ k_))) (by (with_reducible repeat (first | apply Kd.V_alloc | apply Kd.V_drewN | apply Kd.V_drew)); exact HO0.out) hg hat); have n1_ := Aside0.mk (hb); have n2_ := Aside0.mk (ho); clear HO0; clear HB; clear HO278; have HO0 := n0_; have HB := n1_; have HO281 := n2_; clear n0_ n1_ n2_; clear ho hb hg hat))
  go_ret
  exact ⟨_, eW_, by (with_reducible repeat (first | apply Kd.N_alloc | apply Kd.N_drewN | apply Kd.N_drew)); exact HO281.out, hB_⟩
 ·
  rw [if_neg c2] at H
  exact absurd H (by simp)

end Go.Proofs.Ythlcpbendleihaa.PAdvAlone
