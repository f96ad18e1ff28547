-- Written for this claim by wip/tools/myprint.py (print.py's forms; proofs of the faked functions by hand).
import Derived.Test.YtinfkgbbfmeiaaaPDrawOncex0
namespace Go.Proofs.Ytinfkgbbfmeiaaa.PDrawOnce
open Go.RowKit Go.Proofs.YtinfkgbbfmeiaaaW.PrintWords Go.Proofs.YtinfkgbbfmeiaaaW.PrintLast Go.Proofs.YtinfkgbbfmeiaaaW.PrintMore
attribute [local go_sem] max2_int min2_int max_two min_two max_three min_three max_four min_four   -- for this text's walks alone
set_option linter.unusedVariables false
set_option linter.unusedSimpArgs false

/-! ### word_Draw: function 22 -/
def word_Draw.f (a0 : Int) : Option (Int) := some (Go.bits .or .u32 a0 2147483648)
set_option maxHeartbeats 8000000 in
set_option maxRecDepth 100000 in
theorem word_Draw.calls (a0 : Int) (r : Int) (w : World) (h : word_Draw.f a0 = some r) :
    Calls Try.prog 22 #[.int .u32 a0] w fun e w' => e = .returned (.int .u32 r) ∧ Drawn0 w w' := by
  have H : (some (Go.bits .or .u32 a0 2147483648)) = some r := h
  clear h
  obtain rfl := Option.some.inj H
  go_enter Try.func22, Try.ntmps22
  go_wp2
  go_ret
  exact ⟨by first | rfl | (simp; done) | (simp [*]; done), by repeat (first | exact Drawn0.refl _ | apply Drawn0.step)⟩

/-! ### draw_at: function 18 -/
def draw_at.f (l0_0 : List Int) (a0_1 : Int) (a1 : Int) : Option (Int) := if a1 < (l0_0.length : Int) then (if 0 ≤ a1 then ((word_Draw.f (rd l0_0 a1)).bind fun t103 => (some t103)) else (none)) else ((word_Draw.f (Go.bits .or .u32 1073741824 ((a1) % 4294967296))).bind fun t104 => (some t104))
set_option maxHeartbeats 8000000 in
set_option maxRecDepth 100000 in
theorem draw_at.calls (A0_0 : Option Addr) (c0_0 : Nat) (l0_0 : List Int) (a0_1 : Int) (a1 : Int) (r : Int) (w : World) (hr0_0 : Kd.C (Kd.int .u32) w A0_0 l0_0.length l0_0) (hc0_0 : l0_0.length ≤ c0_0) (h : draw_at.f l0_0 a0_1 a1 = some r) :
    Calls Try.prog 18 #[.agg #[.slice A0_0 l0_0.length c0_0, .int .i64 a0_1], .int .i64 a1] w fun e w' => e = .returned (.int .u32 r) ∧ Below w.heap.size w w' := by
  have hu24 := Try.underlying24
  have HR0_0 := Aside0.mk hr0_0
  have HC0_0 := Aside0.mk hc0_0
  clear hr0_0 hc0_0
  have HB := Aside0.mk (Below.refl w.heap.size w)
  have H : (if a1 < (l0_0.length : Int) then (if 0 ≤ a1 then ((word_Draw.f (rd l0_0 a1)).bind fun t103 => (some t103)) else (none)) else ((word_Draw.f (Go.bits .or .u32 1073741824 ((a1) % 4294967296))).bind fun t104 => (some t104))) = some r := h
  clear h
  by_cases c3 : a1 < (l0_0.length : Int)
  · rw [if_pos c3] at H
    have c3b0 : decide (a1 < (l0_0.length : Int)) = true := decide_eq_true c3
    clear c3
    by_cases c4 : 0 ≤ a1
    · rw [if_pos c4] at H
      have c4b0 : decide (0 ≤ a1) = true := decide_eq_true c4
      clear c4
      replace H := Option.bind_eq_some_iff.mp H
      obtain ⟨t103, A50, H⟩ := H
      replace H : (some t103) = some r := H
      have A5 := Aside0.mk A50
      clear A50
      obtain rfl := Option.some.inj H
      go_enter Try.func18, Try.ntmps18
      go_wp2_with (first | ((with_reducible refine gate_dst (N := 2) rfl ?_); refine box_event ?hg (N := 2) ?hd (cs := #[.slice A0_0 l0_0.length c0_0, .int .i64 a0_1]) (t := 24) ?hr ?_; (case hd => rfl); (case hg => rfl); (case hr => first | (go_simp; done) | (go_simp; rfl)); intro gb101 hg w6 hbox hb; have n0_ := Aside0.mk (below_step (by repeat (first | (with_reducible first | exact HB.out | apply below_alloc | apply pw_below_drewN | apply below_drew1) | exact HB.out)) hb); have n1_ := Aside0.mk (hbox); have n2_ := Aside0.mk ((by rw [hg]; exact (below_size (by repeat (first | (with_reducible first | exact HB.out | apply below_alloc | apply pw_below_drewN | apply below_drew1) | exact HB.out))) : w.heap.size ≤ gb101)); have n3_ := Aside0.mk ((by rw [hg]; exact (below_size (by repeat (first | (with_reducible first | exact HB.out | apply below_alloc | apply pw_below_drewN | apply below_drew1) | exact HB.out))) : w.heap.size ≤ gb101)); clear HB; have HB := n0_; have BK101 := n1_; have GW101 := n2_; have GE101 := n3_; clear n0_ n1_ n2_ n3_; clear hb hbox hg; have hcz7_0 : w6.cell? ⟨gb101, 0, none⟩ = some (.slice A0_0 l0_0.length c0_0) := (blk_cell BK101.out 0).trans rfl; have hcz7_1 : w6.cell? ⟨gb101, 1, none⟩ = some (.int .i64 a0_1) := (blk_cell BK101.out 1).trans rfl; have hfz7_0 := blk_frozen BK101.out 0; have hfz7_1 := blk_frozen BK101.out 1; have p102 : 0 ≤ (a1 : Int) := of_decide_eq_true (by first | (with_reducible assumption) | assumption); have q102 : a1 < (l0_0.length : Int) := of_decide_eq_true (by first | (with_reducible assumption) | assumption); obtain ⟨ad102, e102, hx102_0⟩ := Kd.at_int HR0_0.out a1 p102 q102; cases e102; replace hx102_0 := (HB.out.cell (World.block_lt_of_cell? w _ hx102_0)).trans hx102_0; replace p102 := eq_true p102; replace q102 := eq_true q102) | ((with_reducible refine gate_callee (f := 22) rfl ?_); refine goesL_ (some 15) rfl rfl Try.func22 (by kernel_rfl) rfl #[.int .u32 (rd l0_0 a1)] rfl (by (try simp only [List.map_toArray, List.map_cons, List.map_nil]); first | done | rfl | (simp only [List.length_drop, List.length_take]; rfl)) ?_; (with_reducible refine (word_Draw.calls (rd l0_0 a1) t103 _ A5.out).mono ?_); rintro e w' ⟨rfl, ⟨nd, rfl⟩⟩; refine ⟨_, rfl, ?_⟩))
      go_ret
      exact ⟨by first | rfl | (simp [errW_none, errW_some] <;> rfl) | (simp [*, errW_none, errW_some] <;> rfl), by repeat (first | (with_reducible first | exact HB.out | apply below_alloc | apply pw_below_drewN | apply below_drew1 | refine below_set ?_ GE101.out) | exact HB.out)⟩
    · rw [if_neg c4] at H
      exact absurd H (by simp)
  · rw [if_neg c3] at H
    have c3b0 : decide (a1 < (l0_0.length : Int)) = false := decide_eq_false c3
    clear c3
    replace H := Option.bind_eq_some_iff.mp H
    obtain ⟨t104, A80, H⟩ := H
    replace H : (some t104) = some r := H
    have A8 := Aside0.mk A80
    clear A80
    obtain rfl := Option.some.inj H
    go_enter Try.func18, Try.ntmps18
    go_wp2_with (first | ((with_reducible refine gate_dst (N := 2) rfl ?_); refine box_event ?hg (N := 2) ?hd (cs := #[.slice A0_0 l0_0.length c0_0, .int .i64 a0_1]) (t := 24) ?hr ?_; (case hd => rfl); (case hg => rfl); (case hr => first | (go_simp; done) | (go_simp; rfl)); intro gb101 hg w9 hbox hb; have n0_ := Aside0.mk (below_step (by repeat (first | (with_reducible first | exact HB.out | apply below_alloc | apply pw_below_drewN | apply below_drew1) | exact HB.out)) hb); have n1_ := Aside0.mk (hbox); have n2_ := Aside0.mk ((by rw [hg]; exact (below_size (by repeat (first | (with_reducible first | exact HB.out | apply below_alloc | apply pw_below_drewN | apply below_drew1) | exact HB.out))) : w.heap.size ≤ gb101)); have n3_ := Aside0.mk ((by rw [hg]; exact (below_size (by repeat (first | (with_reducible first | exact HB.out | apply below_alloc | apply pw_below_drewN | apply below_drew1) | exact HB.out))) : w.heap.size ≤ gb101)); clear HB; have HB := n0_; have BK101 := n1_; have GW101 := n2_; have GE101 := n3_; clear n0_ n1_ n2_ n3_; clear hb hbox hg; have hcz10_0 : w9.cell? ⟨gb101, 0, none⟩ = some (.slice A0_0 l0_0.length c0_0) := (blk_cell BK101.out 0).trans rfl; have hcz10_1 : w9.cell? ⟨gb101, 1, none⟩ = some (.int .i64 a0_1) := (blk_cell BK101.out 1).trans rfl; have hfz10_0 := blk_frozen BK101.out 0; have hfz10_1 := blk_frozen BK101.out 1) | ((with_reducible refine gate_callee (f := 22) rfl ?_); refine goesL_ (some 19) rfl rfl Try.func22 (by kernel_rfl) rfl #[.int .u32 (Go.bits .or .u32 1073741824 ((a1) % 4294967296))] rfl (by (try simp only [List.map_toArray, List.map_cons, List.map_nil]); first | done | rfl | (simp only [List.length_drop, List.length_take]; rfl)) ?_; (with_reducible refine (word_Draw.calls (Go.bits .or .u32 1073741824 ((a1) % 4294967296)) t104 _ A8.out).mono ?_); rintro e w' ⟨rfl, ⟨nd, rfl⟩⟩; refine ⟨_, rfl, ?_⟩))
    go_ret
    exact ⟨by first | rfl | (simp [errW_none, errW_some] <;> rfl) | (simp [*, errW_none, errW_some] <;> rfl), by repeat (first | (with_reducible first | exact HB.out | apply below_alloc | apply pw_below_drewN | apply below_drew1 | refine below_set ?_ GE101.out) | exact HB.out)⟩

/-! ### draw_Take: function 9 -/
def draw_Take.f (l0_0 : List Int) (a0_1 : Int) : Option (List Int × Int × Int) := (draw_at.f l0_0 a0_1 a0_1).bind fun t107 => (some (l0_0, wrap64 (a0_1 + 1), t107))
set_option maxHeartbeats 8000000 in
set_option maxRecDepth 100000 in
theorem draw_Take.calls (P0_0_ : Nat → Prop) (A0_0 : Option Addr) (c0_0 : Nat) (l0_0 : List Int) (a0_1 : Int) (r1 : List Int) (r2 : Int) (r3 : Int) (w : World) (hs0_0 : Kd.V (Kd.int .u32) 27 w w.heap.size (fun k_ => P0_0_ k_) (.slice A0_0 l0_0.length c0_0) l0_0) (h : draw_Take.f l0_0 a0_1 = some (r1, r2, r3)) :
    Calls Try.prog 9 #[.agg #[.slice A0_0 l0_0.length c0_0, .int .i64 a0_1]] w fun e w' => ∃ v0_ : Value, e = .returned (.tuple #[.agg #[v0_, .int .i64 r2], .int .u32 r3]) ∧ Kd.V (Kd.int .u32) 27 w' w.heap.size (fun k_ => (P0_0_ k_ ∨ w.heap.size ≤ k_)) v0_ r1 ∧ Below w.heap.size w w' := by
  have hu24 := Try.underlying24
  have HO0_0 := Aside0.mk (show Kd.V (Kd.int .u32) 27 w w.heap.size (fun k_ => (P0_0_ k_ ∨ w.heap.size ≤ k_)) (.slice A0_0 l0_0.length c0_0) l0_0 from Kd.V_mono hs0_0 (fun k_ hk => .inl hk))
  have HB := Aside0.mk (Below.refl w.heap.size w)
  have H : ((draw_at.f l0_0 a0_1 a0_1).bind fun t107 => (some (l0_0, wrap64 (a0_1 + 1), t107))) = some (r1, r2, r3) := h
  clear h
  replace H := Option.bind_eq_some_iff.mp H
  obtain ⟨t107, A20, H⟩ := H
  replace H : (some (l0_0, wrap64 (a0_1 + 1), t107)) = some (r1, r2, r3) := H
  have A2 := Aside0.mk A20
  clear A20
  simp only [Option.some.injEq, Prod.mk.injEq] at H
  obtain ⟨rfl, rfl, rfl⟩ := H
  go_enter Try.func9, Try.ntmps9
  go_wp2_with (first | ((with_reducible refine gate_dst (N := 1) rfl ?_); refine box_event ?hg (N := 1) ?hd (cs := #[.slice A0_0 l0_0.length c0_0, .int .i64 a0_1]) (t := 24) ?hr ?_; (case hd => rfl); (case hg => rfl); (case hr => first | (go_simp; done) | (go_simp; rfl)); intro gb105 hg w3 hbox hb; have n0_ := Aside0.mk (Kd.V_below (Kd.V_elderB (by (with_reducible repeat (first | apply Kd.V_alloc | apply Kd.V_drewN | apply Kd.V_drew)); exact HO0_0.out) gb105 (Nat.le_of_eq hg.symm)) hb); have n1_ := Aside0.mk (below_step (by repeat (first | (with_reducible first | exact HB.out | apply below_alloc | apply pw_below_drewN | apply below_drew1) | exact HB.out)) hb); have n2_ := Aside0.mk (hbox); have n3_ := Aside0.mk ((by rw [hg]; exact (below_size (by repeat (first | (with_reducible first | exact HB.out | apply below_alloc | apply pw_below_drewN | apply below_drew1) | exact HB.out))) : w.heap.size ≤ gb105)); have n4_ := Aside0.mk ((by rw [hg]; exact (below_size (by repeat (first | (with_reducible first | exact HB.out | apply below_alloc | apply pw_below_drewN | apply below_drew1) | exact HB.out))) : w.heap.size ≤ gb105)); clear HO0_0; clear HB; have HO0_0 := n0_; have HB := n1_; have BK105 := n2_; have GW105 := n3_; have GE105 := n4_; clear n0_ n1_ n2_ n3_ n4_; clear hb hbox hg) | ((with_reducible refine gate_dst (N := 2) rfl ?_); refine box_event ?hg (N := 2) ?hd (cs := #[.slice none 0 0, .int .i64 0]) (t := 24) ?hr ?_; (case hd => rfl); (case hg => rfl); (case hr => first | (go_simp; done) | (go_simp; rfl)); intro gb106 hg w4 hbox hb; have n0_ := Aside0.mk (Kd.V_below (Kd.V_elderB (by (with_reducible repeat (first | apply Kd.V_alloc | apply Kd.V_drewN | apply Kd.V_drew)); exact HO0_0.out) gb106 (Nat.le_of_eq hg.symm)) hb); have n1_ := Aside0.mk (blk_below (g := gb105) (o := .cells #[.slice A0_0 l0_0.length c0_0, .int .i64 a0_1] 24 (0, 0)) (by (with_reducible repeat (first | refine blk_drewN ?_ _ | refine blk_drew ?_ | refine blk_alloc ?_ _)); exact BK105.out) hb); have n2_ := Aside0.mk (below_step (by repeat (first | (with_reducible first | exact HB.out | apply below_alloc | apply pw_below_drewN | apply below_drew1 | refine below_set ?_ GE105.out) | exact HB.out)) hb); have n3_ := Aside0.mk (hbox); have n4_ := Aside0.mk ((by rw [hg]; exact (below_size (by repeat (first | (with_reducible first | exact HB.out | apply below_alloc | apply pw_below_drewN | apply below_drew1 | refine below_set ?_ GE105.out) | exact HB.out))) : w.heap.size ≤ gb106)); have n5_ := Aside0.mk ((by rw [hg]; exact (below_size (by repeat (first | (with_reducible first | exact HB.out | apply below_alloc | apply pw_below_drewN | apply below_drew1 | refine below_set ?_ GE105.out) | exact HB.out))) : w.heap.size ≤ gb106)); have n6_ := Aside0.mk ((by rw [hg]; exact Nat.ne_of_lt (blk_lt (g := gb105) (o := .cells #[.slice A0_0 l0_0.length c0_0, .int .i64 a0_1] 24 (0, 0)) (by (with_reducible repeat (first | refine blk_drewN ?_ _ | refine blk_drew ?_ | refine blk_alloc ?_ _)); exact BK105.out)) : gb105 ≠ gb106)); have n7_ := Aside0.mk ((by rw [hg]; exact Nat.ne_of_gt (blk_lt (g := gb105) (o := .cells #[.slice A0_0 l0_0.length c0_0, .int .i64 a0_1] 24 (0, 0)) (by (with_reducible repeat (first | refine blk_drewN ?_ _ | refine blk_drew ?_ | refine blk_alloc ?_ _)); exact BK105.out)) : gb106 ≠ gb105)); clear HO0_0; clear BK105; clear HB; have HO0_0 := n0_; have BK105 := n1_; have HB := n2_; have BK106 := n3_; have GW106 := n4_; have GE106 := n5_; have NB105_106 := n6_; have NB106_105 := n7_; clear n0_ n1_ n2_ n3_ n4_ n5_ n6_ n7_; clear hb hbox hg; have hnb5 := NB105_106.out; have hnc5 := NB106_105.out; have hcz6_0 : w4.cell? ⟨gb105, 0, none⟩ = some (.slice A0_0 l0_0.length c0_0) := (blk_cell BK105.out 0).trans rfl; have hcz6_1 : w4.cell? ⟨gb105, 1, none⟩ = some (.int .i64 a0_1) := (blk_cell BK105.out 1).trans rfl; have hfz6_0 := blk_frozen BK105.out 0; have hfz6_1 := blk_frozen BK105.out 1) | ((with_reducible refine gate_callee (f := 18) rfl ?_); refine goesL_ (some 8) rfl rfl Try.func18 (by kernel_rfl) rfl #[.agg #[.slice A0_0 l0_0.length c0_0, .int .i64 a0_1], .int .i64 a0_1] rfl (by (try simp only [List.map_toArray, List.map_cons, List.map_nil]); first | done | rfl | (simp only [List.length_drop, List.length_take]; rfl)) ?_; (with_reducible refine (draw_at.calls _ _ l0_0 a0_1 a0_1 t107 _ ?side1 ?side2 A2.out).mono ?_); (case side1 => repeat (first | exact (Kd.V_reads' HO0_0.out).2.2 | (with_reducible refine Kd.C_alloc ?_ _) | (with_reducible refine Kd.C_drewN ?_ _) | (with_reducible refine Kd.C_drew ?_))); (case side2 => exact (Kd.V_reads' HO0_0.out).2.1); rintro e w7 ⟨rfl, hb⟩; refine ⟨_, rfl, ?_⟩; have n0_ := Aside0.mk (Kd.V_below (by (with_reducible repeat (first | apply Kd.V_alloc | apply Kd.V_drewN | apply Kd.V_drew)); exact HO0_0.out) hb); have n1_ := Aside0.mk (blk_below (g := gb105) (o := .cells #[.slice A0_0 l0_0.length c0_0, .int .i64 a0_1] 24 (0, 0)) (by (with_reducible repeat (first | refine blk_drewN ?_ _ | refine blk_drew ?_ | refine blk_alloc ?_ _)); exact BK105.out) hb); have n2_ := Aside0.mk (blk_below (g := gb106) (o := .cells #[.slice none 0 0, .int .i64 0] 24 (0, 0)) (by (with_reducible repeat (first | refine blk_drewN ?_ _ | refine blk_drew ?_ | refine blk_alloc ?_ _)); exact BK106.out) hb); have n3_ := Aside0.mk (below_step (by repeat (first | (with_reducible first | exact HB.out | apply below_alloc | apply pw_below_drewN | apply below_drew1 | refine below_set ?_ GE105.out | refine below_set ?_ GE106.out) | exact HB.out)) hb); clear HO0_0; clear BK105; clear BK106; clear HB; have HO0_0 := n0_; have BK105 := n1_; have BK106 := n2_; have HB := n3_; clear n0_ n1_ n2_ n3_; (try clear hb); (try clear hb2); (try clear hk); (try clear hi); have hcz8_0 : w7.cell? ⟨gb105, 0, none⟩ = some (.slice A0_0 l0_0.length c0_0) := (blk_cell BK105.out 0).trans rfl; have hcz8_1 : w7.cell? ⟨gb105, 1, none⟩ = some (.int .i64 a0_1) := (blk_cell BK105.out 1).trans rfl; have hfz8_0 := blk_frozen BK105.out 0; have hfz8_1 := blk_frozen BK105.out 1; have hcz9_0 : w7.cell? ⟨gb106, 0, none⟩ = some (.slice none 0 0) := (blk_cell BK106.out 0).trans rfl; have hcz9_1 : w7.cell? ⟨gb106, 1, none⟩ = some (.int .i64 0) := (blk_cell BK106.out 1).trans rfl; have hfz9_0 := blk_frozen BK106.out 0; have hfz9_1 := blk_frozen BK106.out 1))
  refine bodyPost_ret (results_ct rfl _ _ gb106 24 #[.slice A0_0 l0_0.length c0_0, .int .i64 (wrap64 (a0_1 + 1))] (0, 0) _ rfl (by (with_reducible repeat (first | refine blk_drewN ?_ _ | refine blk_drew ?_ | refine blk_alloc ?_ _)); refine blk_put (cs := #[.slice A0_0 l0_0.length c0_0, .int .i64 0]) ?_ 1 _ rfl; (with_reducible repeat (first | refine blk_drewN ?_ _ | refine blk_drew ?_ | refine blk_alloc ?_ _)); refine blk_put (cs := #[.slice none 0 0, .int .i64 0]) ?_ 0 _ rfl; (with_reducible repeat (first | refine blk_drewN ?_ _ | refine blk_drew ?_ | refine blk_alloc ?_ _)); refine blk_far ?_ NB106_105.out _; (with_reducible repeat (first | refine blk_drewN ?_ _ | refine blk_drew ?_ | refine blk_alloc ?_ _)); exact BK106.out) Try.underlying24 rfl (by kernel_rfl)) rfl ?_
  exact ⟨_, by first | rfl | (simp [errW_none, errW_some] <;> rfl) | (simp [*, errW_none, errW_some] <;> rfl), by (with_reducible repeat (first | apply Kd.V_alloc | apply Kd.V_drewN | apply Kd.V_drew)); exact Kd.V_mono (Kd.V_far (p := ⟨gb106, 1, none⟩) (Kd.V_far (p := ⟨gb106, 0, none⟩) (Kd.V_far (p := ⟨gb105, 1, none⟩) (Kd.V_mono (Kd.V_mono HO0_0.out (fun k_ hk => (⟨hk, hk.1.2⟩ : _ ∧ k_ ≠ gb105))) (fun k_ hk => (⟨hk, hk.1.2⟩ : _ ∧ k_ ≠ gb106))) (fun _ hk => hk.1.2) (.int .i64 (wrap64 (a0_1 + 1)))) (fun _ hk => hk.2) (.slice A0_0 l0_0.length c0_0)) (fun _ hk => hk.2) (.int .i64 (wrap64 (a0_1 + 1)))) (fun _ hk => hk.1.1.1.1), by repeat (first | (with_reducible first | exact HB.out | apply below_alloc | apply pw_below_drewN | apply below_drew1 | refine below_set ?_ GE105.out | refine below_set ?_ GE106.out) | exact HB.out)⟩

/-! ### chamberlainref01_Same: function 12 -/
def chamberlainref01_Same.l0 : Nat → List Int → List Int → Int → Option (Bool)
  | 0, _, _, _ => none
  | k + 1, x0, x1, x5 => if x5 < (x0.length : Int) then (if 0 ≤ x5 then (if x5 < (x1.length : Int) then (if (rd x0 x5) = (rd x1 x5) then (chamberlainref01_Same.l0 k x0 x1 (wrap64 (x5 + 1))) else (some false)) else (none)) else (none)) else (some true)
def chamberlainref01_Same.f (k : Nat) (l0 : List Int) (l1 : List Int) : Option (Bool) := if (l0.length : Int) = (l1.length : Int) then (chamberlainref01_Same.l0 k l0 l1 0) else (some false)
theorem chamberlainref01_Same.mono_l : ∀ k, (∀ y0 y1 y2, LeO (chamberlainref01_Same.l0 k y0 y1 y2) (chamberlainref01_Same.l0 (k + 1) y0 y1 y2))
  | 0 => fun _ _ _ r h => by simp [chamberlainref01_Same.l0] at h
  | k + 1 => by
    have ih0 := chamberlainref01_Same.mono_l k
    · intro y0 y1 y2
      unfold chamberlainref01_Same.l0
      repeat' first
      | (with_reducible exact ih0 _ _ _)
      | (with_reducible exact LeO.refl _)
      | (with_reducible exact LeO.none _)
      | (with_reducible refine LeO.ite ?_ ?_)
      | (with_reducible refine LeO.bind ?_ (fun _ => ?_))
      | exact ih0 _ _ _
      | exact LeO.none _
      | refine LeO.ite ?_ ?_
      | refine LeO.bind ?_ (fun _ => ?_)
theorem chamberlainref01_Same.mono : ∀ a0 a1 k, LeO (chamberlainref01_Same.f k a0 a1) (chamberlainref01_Same.f (k + 1) a0 a1) := by
  intro a0 a1 k
  have ih0 := chamberlainref01_Same.mono_l k
  unfold chamberlainref01_Same.f
  repeat' first
      | (with_reducible exact ih0 _ _ _)
      | (with_reducible exact LeO.refl _)
      | (with_reducible exact LeO.none _)
      | (with_reducible refine LeO.ite ?_ ?_)
      | (with_reducible refine LeO.bind ?_ (fun _ => ?_))
      | exact ih0 _ _ _
      | exact LeO.none _
      | refine LeO.ite ?_ ?_
      | refine LeO.bind ?_ (fun _ => ?_)
set_option maxHeartbeats 8000000 in
set_option maxRecDepth 100000 in
theorem chamberlainref01_Same.calls (k : Nat) (A0 : Option Addr) (c0 : Nat) (l0 : List Int) (A1 : Option Addr) (c1 : Nat) (l1 : List Int) (r : Bool) (w : World) (hr0 : Kd.C (Kd.int .u32) w A0 l0.length l0) (hc0 : l0.length ≤ c0) (hr1 : Kd.C (Kd.int .u32) w A1 l1.length l1) (hc1 : l1.length ≤ c1) (h : chamberlainref01_Same.f k l0 l1 = some r) :
    Calls Try.prog 12 #[.slice A0 l0.length c0, .slice A1 l1.length c1] w fun e w' => e = .returned (.bool r) ∧ Drawn0 w w' := by
  have HR0 := Aside0.mk hr0
  have HC0 := Aside0.mk hc0
  clear hr0 hc0
  have HR1 := Aside0.mk hr1
  have HC1 := Aside0.mk hc1
  clear hr1 hc1
  have H : (if (l0.length : Int) = (l1.length : Int) then (chamberlainref01_Same.l0 k l0 l1 0) else (some false)) = some r := h
  clear h
  by_cases c3 : (l0.length : Int) = (l1.length : Int)
  · rw [if_pos c3] at H
    have c3b0 : ((l0.length : Int) == (l1.length : Int)) = true := beq_iff_eq.mpr c3
    have c3b1 : ((l0.length : Int) != (l1.length : Int)) = false := bne_eq_false_iff_eq.mpr c3
    have c3b2 : (l0.length == l1.length) = true := by first | simpa using c3 | (simp at c3 ⊢; omega)
    clear c3
    have H' := Aside0.mk H
    clear H
    go_enter Try.func12, Try.ntmps12
    go_wp2
    repeat (go_quiet (fail); try go_wp2)
    go_loopg [5] k (fun kq v5 w' => ∃ (x5_1 : Int), v5 = .int .i64 x5_1 ∧ Aside0 (chamberlainref01_Same.l0 kq l0 l1 x5_1 = some r) ∧ Aside0 (kq ≤ k) ∧ Drawn0 w w')
    case atStart => exact ⟨(0), (by first | rfl | (simp; done) | (simp [*]; done)), H', ⟨Nat.le_refl _⟩, by repeat (first | exact Drawn0.refl _ | apply Drawn0.step)⟩
    case round =>
      clear H'
      try clear c1
      try clear p2
      try clear c3
      try clear c3b0
      try clear c3b1
      try clear c3b2
      obtain ⟨x5_1, rfl, HA, HK1, ⟨m1, rfl⟩⟩ := hrel
      cases gk with
      | zero => exact absurd HA.out (by simp [chamberlainref01_Same.l0])
      | succ k1 =>
        have H := HA.out
        clear HA
        simp only [chamberlainref01_Same.l0] at H
        by_cases c4 : x5_1 < (l0.length : Int)
        · rw [if_pos c4] at H
          have c4b0 : decide (x5_1 < (l0.length : Int)) = true := decide_eq_true c4
          clear c4
          by_cases c5 : 0 ≤ x5_1
          · rw [if_pos c5] at H
            have c5b0 : decide (0 ≤ x5_1) = true := decide_eq_true c5
            clear c5
            by_cases c6 : x5_1 < (l1.length : Int)
            · rw [if_pos c6] at H
              have c6b0 : decide (x5_1 < (l1.length : Int)) = true := decide_eq_true c6
              clear c6
              by_cases c7 : (rd l0 x5_1) = (rd l1 x5_1)
              · rw [if_pos c7] at H
                have c7b0 : ((rd l0 x5_1) == (rd l1 x5_1)) = true := beq_iff_eq.mpr c7
                have c7b1 : ((rd l0 x5_1) != (rd l1 x5_1)) = false := bne_eq_false_iff_eq.mpr c7
                clear c7
                have H' := Aside0.mk H
                clear H
                have p108 : 0 ≤ (x5_1 : Int) := of_decide_eq_true (by first | (with_reducible assumption) | assumption)
                have q108 : x5_1 < (l0.length : Int) := of_decide_eq_true (by first | (with_reducible assumption) | assumption)
                obtain ⟨ad108, e108, hx108_0⟩ := Kd.at_int HR0.out x5_1 p108 q108
                cases e108
                replace p108 := eq_true p108
                replace q108 := eq_true q108
                have p109 : 0 ≤ (x5_1 : Int) := of_decide_eq_true (by first | (with_reducible assumption) | assumption)
                have q109 : x5_1 < (l1.length : Int) := of_decide_eq_true (by first | (with_reducible assumption) | assumption)
                obtain ⟨ad109, e109, hx109_0⟩ := Kd.at_int HR1.out x5_1 p109 q109
                cases e109
                replace p109 := eq_true p109
                replace q109 := eq_true q109
                go_wp2
                repeat (go_quiet (fail); try go_wp2)
                go_roundg k1
                case measure => have := HK1.out; omega
                case rel => exact ⟨(wrap64 (x5_1 + 1)), (by first | rfl | (simp; done) | (simp [*]; done)), H', ⟨by have := HK1.out; omega⟩, by repeat (first | exact Drawn0.refl _ | apply Drawn0.step)⟩
              · rw [if_neg c7] at H
                have c7b0 : ((rd l0 x5_1) == (rd l1 x5_1)) = false := beq_eq_false_iff_ne.mpr c7
                have c7b1 : ((rd l0 x5_1) != (rd l1 x5_1)) = true := bne_iff_ne.mpr c7
                obtain rfl := Option.some.inj H
                have p108 : 0 ≤ (x5_1 : Int) := of_decide_eq_true (by first | (with_reducible assumption) | assumption)
                have q108 : x5_1 < (l0.length : Int) := of_decide_eq_true (by first | (with_reducible assumption) | assumption)
                obtain ⟨ad108, e108, hx108_0⟩ := Kd.at_int HR0.out x5_1 p108 q108
                cases e108
                replace p108 := eq_true p108
                replace q108 := eq_true q108
                have p109 : 0 ≤ (x5_1 : Int) := of_decide_eq_true (by first | (with_reducible assumption) | assumption)
                have q109 : x5_1 < (l1.length : Int) := of_decide_eq_true (by first | (with_reducible assumption) | assumption)
                obtain ⟨ad109, e109, hx109_0⟩ := Kd.at_int HR1.out x5_1 p109 q109
                cases e109
                replace p109 := eq_true p109
                replace q109 := eq_true q109
                go_wp2
                repeat (go_quiet (fail); try go_wp2)
                go_ret
                exact ⟨by first | rfl | (simp; done) | (simp [*]; done), by repeat (first | exact Drawn0.refl _ | apply Drawn0.step)⟩
            · rw [if_neg c6] at H
              exact absurd H (by simp)
          · rw [if_neg c5] at H
            exact absurd H (by simp)
        · rw [if_neg c4] at H
          have c4b0 : decide (x5_1 < (l0.length : Int)) = false := decide_eq_false c4
          clear c4
          obtain rfl := Option.some.inj H
          go_wp2
          repeat (go_quiet (fail); try go_wp2)
          go_ret
          exact ⟨by first | rfl | (simp; done) | (simp [*]; done), by repeat (first | exact Drawn0.refl _ | apply Drawn0.step)⟩
  · rw [if_neg c3] at H
    have c3b0 : ((l0.length : Int) == (l1.length : Int)) = false := beq_eq_false_iff_ne.mpr c3
    have c3b1 : ((l0.length : Int) != (l1.length : Int)) = true := bne_iff_ne.mpr c3
    have c3b2 : (l0.length == l1.length) = false := by first | simpa using c3 | (simp at c3 ⊢; omega)
    obtain rfl := Option.some.inj H
    go_enter Try.func12, Try.ntmps12
    go_wp2
    repeat (go_quiet (fail); try go_wp2)
    go_ret
    exact ⟨by first | rfl | (simp; done) | (simp [*]; done), by repeat (first | exact Drawn0.refl _ | apply Drawn0.step)⟩

-- NOT PRINTED: function 20 (draw_from)

/-! ### draw_Peek: function 13 -/
def draw_Peek.l0 : Nat → List Int → Int → Int → List Int → Int → Option (List Int)
  | 0, _, _, _, _, _ => none
  | k + 1, x5, x11, x12, x111000, x111001 => if x11 < x12 then ((draw_at.f x111000 x111001 x11).bind fun t111 => (if x5.length < 35184372088832 then (draw_Peek.l0 k (x5 ++ [t111]) (wrap64 (x11 + 1)) x12 x111000 x111001) else (none))) else (some x5)
def draw_Peek.f (k : Nat) (l0_0 : List Int) (a0_1 : Int) (a1 : Int) : Option (List Int) := draw_Peek.l0 k ([] : List Int) a0_1 (wrap64 (a0_1 + a1)) l0_0 a0_1
theorem draw_Peek.mono_l : ∀ k, (∀ y0 y1 y2 y3 y4, LeO (draw_Peek.l0 k y0 y1 y2 y3 y4) (draw_Peek.l0 (k + 1) y0 y1 y2 y3 y4))
  | 0 => fun _ _ _ _ _ r h => by simp [draw_Peek.l0] at h
  | k + 1 => by
    have ih0 := draw_Peek.mono_l k
    · intro y0 y1 y2 y3 y4
      unfold draw_Peek.l0
      repeat' first
      | (with_reducible exact ih0 _ _ _ _ _)
      | (with_reducible exact LeO.refl _)
      | (with_reducible exact LeO.none _)
      | (with_reducible refine LeO.ite ?_ ?_)
      | (with_reducible refine LeO.bind ?_ (fun _ => ?_))
      | exact ih0 _ _ _ _ _
      | exact LeO.none _
      | refine LeO.ite ?_ ?_
      | refine LeO.bind ?_ (fun _ => ?_)
theorem draw_Peek.mono : ∀ a0 a1 a2 k, LeO (draw_Peek.f k a0 a1 a2) (draw_Peek.f (k + 1) a0 a1 a2) := by
  intro a0 a1 a2 k
  have ih0 := draw_Peek.mono_l k
  unfold draw_Peek.f
  repeat' first
      | (with_reducible exact ih0 _ _ _ _ _)
      | (with_reducible exact LeO.refl _)
      | (with_reducible exact LeO.none _)
      | (with_reducible refine LeO.ite ?_ ?_)
      | (with_reducible refine LeO.bind ?_ (fun _ => ?_))
      | exact ih0 _ _ _ _ _
      | exact LeO.none _
      | refine LeO.ite ?_ ?_
      | refine LeO.bind ?_ (fun _ => ?_)
attribute [local go_sem] Oper.semAt_some
/-- 'for x := range f' where f keeps a counter in a box of its own ('mine'), and the loop's body never leaves. -/
theorem peek.range_mine {F : Fence} {n : Nat} {P : Program} {α : Type} {g : Operand} {ps : Array Tmp} {assign body : Code} {Q : Exit → Act → World → Prop} {a : Act} {w : World}
    (hro : F.round = none) (h1 : 1 ≤ n) {gf : Nat} {lb : Array Value} (hg : a.eval g = .func (.func gf) #[] lb) (hFg : F.fn gf) (eg : ∀ args w, (callFunc gf args).run P w = .ok (.enter gf args) w)
    {encs : α → Array Value} {Kp : World → World → Prop} {S : List α → Prop} {N : Nat} (G : World → Prop) (mine : Nat) (hm : mine < w.heap.size)
    (hseq : ∀ (l : Nat) (J : List α → World → Prop) (W : World), Below w.heap.size w W → (∀ s A B row, J s A → A.grownBy B row → (∀ r, row = some r → r = mine) → G B → J s B) →
      (∀ pre x W1, J pre W1 → pre.length < N → YieldAt F (n - 1 - 1) P l (encs x) W1 fun e W' => e = .returned (.bool true) ∧ J (pre ++ [x]) W' ∧ Kp W1 W') → J [] W →
      CallsIn F (n - 1) P gf (#[.func (.yield l) #[] #[]] ++ lb) W fun e W' => (∃ v, e = .returned v) ∧ ∃ xs, S xs ∧ J xs W')
    (hKt : ∀ {A B C : World}, Kp A B → Kp B C → Kp A C) (hKb : ∀ (W : World) (l : Nat) (o o' : Obj), w.heap.size ≤ l → W.heap[l]? = some o → o.isCells = false → o.isWalk = false → Kp W (W.putObj l o')) (hps : ∀ x, (encs x).size = ps.size)
    (I : List α → World → Prop) (hI : OwnFrom w.heap.size I) (hIm : ∀ s A B row, I s A → A.grownBy B row → (∀ r, row = some r → r = mine) → G B → I s B) (h0 : I [] w) (a₁ : α → Act)
    (hassign : ∀ (l : Nat) (x : α) (W : World) (K : Act → World → Prop), K (a₁ x) W →
      assign.wpIn (F.inRound l) (n - 1 - 1) P (Exit.then K (fun _ _ _ => False)) { tmps := (ps.zip (encs x)).foldl (fun t (p, v) => t.setIfInBounds p v) a.tmps, defers := [] } W)
    (hbody : ∀ (l : Nat) (pre : List α) (x : α) (W : World), I pre W → pre.length < N → body.wpIn (F.inRound l) (n - 1 - 1) P (ownPostK Kp I (fun _ _ _ => False) (pre ++ [x]) W) (a₁ x) W)
    (hdone : ∀ (D : Nat) (xs : List α) (W : World), w.heap.size ≤ D → S xs → I xs W → W.heap[D]? = some (.deferred (some [])) → Q .normal { a with defers := { target := .collected D, args := #[] } :: a.defers } W) :
    (Code.rangeFunc g ps assign body).wpIn F n P Q a w := by
  refine wpIn_rangeFunc ?_
  intro fn hfn
  rw [hro]
  obtain ⟨rec, hrec⟩ : ∃ rec : LoopState → Option Code → Loop, rec = fun st pe => { state := st, pending := pe, fn, tmps := a.tmps, params := ps, assign, body, defers := w.heap.size } := ⟨_, rfl⟩
  obtain ⟨W1, hW1⟩ : ∃ W1, (w.alloc (.deferred (some []))).alloc (.loop (rec .ready none)) = W1 := ⟨_, rfl⟩
  have hL1 : W1.heap[w.heap.size + 1]? = some (.loop (rec .ready none)) := by
    rw [← hW1]; have := World.alloc_heap_new (w.alloc (.deferred (some []))) (.loop (rec .ready none)); rwa [World.size_alloc] at this
  have hK1 : W1.heap[w.heap.size]? = some (.deferred (some [])) := by
    rw [← hW1]; exact (Below.heap_alloc _ _ _ (by simp)).trans (World.alloc_heap_new w _)
  have hI1 : I [] W1 := by rw [← hW1]; exact hI.alloc _ (hI.alloc _ h0)
  have hb1 : Below w.heap.size w W1 := by
    rw [← hW1]; exact ((Below.refl _ w).alloc (Nat.le_refl _) _).alloc (by simp) _
  refine ⟨w.heap.size + 1, [{ target := .collected w.heap.size, args := #[] }], W1, { target := .fn (.func gf) lb, args := #[.func (.yield (w.heap.size + 1)) #[] #[]] }, W1, gf,
    #[.func (.yield (w.heap.size + 1)) #[] #[]] ++ lb, W1, ?_, ?_, ?_, ?_, fun _ => h1, ?_⟩
  · rw [← hW1, hrec]; exact run_enterLoop_outer _ _ _ _ _
  · simp only [resolve, hg]
    simp [go_sem]
  · intro f' hf'; simp [Target.leads] at hf'; subst hf'; exact hFg
  · simp [invoke, go_sem, eg]
  · have kept : ∀ {A B : World} {row : Option Nat} {k : Nat} {o : Obj}, A.grownBy B row → (∀ r, row = some r → r = mine) → mine ≠ k → A.heap[k]? = some o → B.heap[k]? = some o := fun hg' hr hne hk =>
      (hg'.block _ (Array.getElem?_eq_some_iff.1 hk).1 (fun e => hne (hr _ e.symm).symm)).trans hk
    refine (hseq (w.heap.size + 1)
      (fun pre W => I pre W ∧ W.heap[w.heap.size + 1]? = some (.loop (rec .ready none)) ∧ W.heap[w.heap.size]? = some (.deferred (some [])))
      W1 hb1
      (fun s A B row hs hg' hr hG => ⟨hIm s A B row hs.1 hg' hr hG, kept hg' hr (by omega) hs.2.1, kept hg' hr (by omega) hs.2.2⟩)
      ?_ ⟨hI1, hL1, hK1⟩).mono ?_
    · rintro pre x W ⟨hi, hl, hk⟩ hlen
      have hlt : w.heap.size + 1 < W.heap.size := (Array.getElem?_eq_some_iff.1 hl).1
      have hy := run_yield (P := P) (args := encs x) hl (by rw [hrec]; exact hps x)
      rw [hrec] at hy
      refine ⟨fn, _, assign, body, hy, roundIn_of_wpIn hfn (hassign _ x W _ ⟨_, run_beginRound hl (by rw [hrec]), ?_⟩)⟩
      have hl2 : (W.putObj (w.heap.size + 1) (.loop { rec .ready none with state := .busy })).heap[w.heap.size + 1]? = some (.loop { rec .ready none with state := .busy }) := World.putObj_heap_same hlt
      have hk2 : (W.putObj (w.heap.size + 1) (.loop { rec .ready none with state := .busy })).heap[w.heap.size]? = some (.deferred (some [])) := (World.putObj_heap_other (by omega)).trans hk
      have hw2 : Kp W (W.putObj (w.heap.size + 1) (.loop { rec .ready none with state := .busy })) := hKb _ _ _ _ (by omega) hl rfl rfl
      refine wpIn_mono (hbody _ pre x _ (hI.putObj _ hi (by omega) hl rfl) hlen) ?_
      rintro e a3 W3 hp
      cases e with
      | normal =>
        obtain ⟨hk3, hkp3, hi3⟩ := hp
        have hl3 := hk3.same _ _ hl2 rfl
        have hr := run_endRound (P := P) none hl3
        rw [hrec] at hr hl3
        have hl4 : (W3.putObj (w.heap.size + 1) (.loop (rec .ready none))).heap[w.heap.size + 1]? = some (.loop (rec .ready none)) := World.putObj_heap_same (Array.getElem?_eq_some_iff.1 hl3).1
        have hk4 : (W3.putObj (w.heap.size + 1) (.loop (rec .ready none))).heap[w.heap.size]? = some (.deferred (some [])) := (World.putObj_heap_other (by omega)).trans (hk3.same _ _ hk2 rfl)
        rw [hrec] at hl4 hk4
        refine ⟨_, _, hr, rfl, ⟨hI.putObj _ hi3 (by omega) hl3 rfl, by rw [hrec]; exact hl4, hk4⟩, hKt (hKt hw2 hkp3) (hKb _ _ _ _ (by omega) hl3 rfl rfl)⟩
      | ret => exact hp.2.elim
      | exit id => exact hp.2.elim
      | goto t => exact hp.2.elim
      | panic ch => exact hp.elim
      | outgrown => exact hp.elim
    · rintro e W2 ⟨⟨v, rfl⟩, xs, hS, hi, hl, hk⟩
      exact ⟨none, _, by have := run_endLoop (P := P) hl (by rw [hrec]; simp); rw [hrec] at this; exact this, hdone _ xs _ (Nat.le_refl _) hS (hI.putObj _ hi (by omega) hl rfl) ((World.putObj_heap_other (by omega)).trans hk)⟩

/-- What a round keeps of the iterator's boxes. -/
def peek.KP (n₀ Bi Be Bd : Nat) (W W' : World) : Prop := Below n₀ W W' ∧ W'.heap[Bi]? = W.heap[Bi]? ∧ W'.heap[Be]? = W.heap[Be]? ∧ W'.heap[Bd]? = W.heap[Bd]?
theorem peek.boxed_set {W : World} {B : Nat} {t : TypeId} {v : Value} (h : Boxed W B t v) (v' : Value) : Boxed (W.setCell ⟨B, 0, none⟩ v') B t v' := h.set v'
theorem peek.grown_set (W : World) (B : Nat) (v : Value) : W.grownBy (W.setCell ⟨B, 0, none⟩ v) (some B) := grownBy_setCell' W B v
/-- The index behind k rounds. -/
def peek.idx (i : Int) : Nat → Int
  | 0 => i
  | k + 1 => peek.idx (wrap64 (i + 1)) k
theorem peek.idx_succ (k : Nat) : ∀ i : Int, peek.idx i (k + 1) = wrap64 (peek.idx i k + 1) := by
  induction k with
  | zero => intro i; rfl
  | succ k ih => intro i; rw [peek.idx, ih, peek.idx]
def peek.left (e i : Int) : Nat := if -9223372036854775808 ≤ i then (e - i).toNat else 1180591620717411303424
theorem peek.left_lt (e i : Int) (h1 : -9223372036854775808 ≤ e) (h2 : e ≤ 9223372036854775807) (h : i < e) : peek.left e (wrap64 (i + 1)) < peek.left e i := by
  unfold peek.left wrap64
  split <;> split <;> omega
/-- draws.from's closure hands out the draws from i to e. -/
theorem peek.iter (n : Nat) (l Bi Be Bd n₀ : Nat) (A0 : Option Addr) (c0 : Nat) (l0 : List Int) (nx i0 e : Int) (xs : List Int)
    (hlo : -9223372036854775808 ≤ e) (hhi : e ≤ 9223372036854775807) (hN : ∀ k : Nat, k ≤ xs.length → (k < xs.length ↔ peek.idx i0 k < e))
    (hat : ∀ j (hj : j < xs.length), draw_at.f l0 nx (peek.idx i0 j) = some xs[j])
    (h1 : Bi ≠ Be) (h2 : Bi ≠ Bd) (h3 : n₀ ≤ Bi) (J : List Int → World → Prop)
    (hJ : ∀ s A B row, J s A → A.grownBy B row → (∀ r, row = some r → r = Bi) → (∃ i : Int, Boxed B Bi 3 (.int .i64 i)) → J s B)
    (hY : ∀ pre x W1, J pre W1 → pre.length < xs.length → YieldAt Fence.wide n Try.prog l #[.int .u32 x] W1 fun e W' => e = .returned (.bool true) ∧ J (pre ++ [x]) W' ∧ peek.KP n₀ Bi Be Bd W1 W')
    (W : World) (hw : ∃ w0 : World, n₀ ≤ w0.heap.size ∧ Below n₀ w0 W ∧ Kd.C (Kd.int .u32) w0 A0 l0.length l0 ∧ w0.heap.size = n₀) (hc0 : l0.length ≤ c0)
    (hBi : Boxed W Bi 3 (.int .i64 i0)) (hBe : Boxed W Be 3 (.int .i64 e)) (hBd : W.heap[Bd]? = some (.cells #[.slice A0 l0.length c0, .int .i64 nx] 24 (0, 0))) (h0 : J [] W) :
    CallsIn Fence.wide (n + 1) Try.prog 23 #[.func (.yield l) #[] #[], .pointer (some ⟨Bi, 0, none⟩), .pointer (some ⟨Be, 0, none⟩), .pointer (some ⟨Bd, 0, none⟩)] W fun en W' => (∃ v, en = .returned v) ∧ ∃ ys, ys = xs ∧ J ys W' := by
  refine callsIn_of_wp Try.func23 rfl trivial ?_ rfl
  simp only [Try.ntmps23, List.size_toArray, List.length_cons, List.length_nil, Nat.reduceAdd, Nat.reduceSub, Array.replicate_succ, Array.replicate_zero, List.push_toArray, List.append_toArray, List.nil_append, List.cons_append]
  gi_wp2
  gi_loopw [5] (fun _ wr => ∃ k : Nat, k ≤ xs.length ∧ J (xs.take k) wr ∧ Below n₀ W wr ∧ Boxed wr Bi 3 (.int .i64 (peek.idx i0 k)) ∧ Boxed wr Be 3 (.int .i64 e) ∧ wr.heap[Bd]? = some (.cells #[.slice A0 l0.length c0, .int .i64 nx] 24 (0, 0)))
    (fun _ wr => match wr.cell? ⟨Bi, 0, none⟩ with | some (.int _ i) => peek.left e i | _ => 0)
  case atStart => exact ⟨0, Nat.zero_le _, by simpa using h0, Below.refl _ _, hBi, hBe, hBd⟩
  case round =>
    obtain ⟨k, hk, hJs, hnx, bi, be, hd⟩ := hrel
    have cBi := bi.cell
    have cBe := be.cell
    have cD0 : wr.cell? ⟨Bd, 0, none⟩ = some (.slice A0 l0.length c0) := by simp [World.cell?, hd]
    have cD1 : wr.cell? ⟨Bd, 1, none⟩ = some (.int .i64 nx) := by simp [World.cell?, hd]
    by_cases hlt : k < xs.length
    · have hle : peek.idx i0 k < e := (hN k hk).mp hlt
      have hd1 : decide (peek.idx i0 k < e) = true := decide_eq_true hle
      obtain ⟨z, hz⟩ : ∃ z, z = peek.idx i0 k := ⟨_, rfl⟩
      have Hz := Aside0.mk hz
      rw [← hz] at cBi bi hle hd1
      obtain ⟨w0, hw1, hw2, hw3, hw4⟩ := hw
      have hcr : Kd.C (Kd.int .u32) wr A0 l0.length l0 := Kd.C_below hw3 (by rw [hw4]; exact hw2.trans hnx)
      have hcl : (xs.take k).length < xs.length := by rw [List.length_take]; omega
      obtain ⟨y, hyk⟩ : ∃ y, y = xs[k]'hlt := ⟨_, rfl⟩
      have HA := Aside0.mk (show draw_at.f l0 nx z = some y by rw [hyk, hz]; exact hat k hlt)
      have Hy := Aside0.mk (show xs.take (k + 1) = xs.take k ++ [y] by rw [List.take_succ_eq_append_getElem hlt, hyk])
      clear hyk hz
      have HC := Aside0.mk hcr
      have HJ := Aside0.mk hJ
      have HY := Aside0.mk hY
      have HL := Aside0.mk hcl
      have HJs := Aside0.mk hJs
      have HBi := Aside0.mk bi
      have HBe := Aside0.mk be
      have HBd := Aside0.mk hd
      have HN := Aside0.mk hN
      have Hh := Aside0.mk hhi
      have Hat := Aside0.mk hat
      have Hc0 := Aside0.mk hc0
      have Hnx := Aside0.mk hnx
      have Hlt := Aside0.mk hlt
      have Hle := Aside0.mk hle
      have HW := Aside0.mk hw2
      have Hw3 := Aside0.mk hw3
      have Hlo := Aside0.mk hlo
      have Hh1 := Aside0.mk h1
      have Hh2 := Aside0.mk h2
      have Hh3 := Aside0.mk h3
      have Hsz := Aside0.mk (show n₀ ≤ wr.heap.size by have := hw2.size; have := hnx.size; omega)
      clear hat hcr hJ hY hcl hJs bi be hd hN hhi hc0 hnx hlt hle hw2 hw3 hlo hk h1 h2 h3 hw1 hw4 hBi hBe hBd h0
      gi_wp2_with (refine ⟨trivial, ?_⟩; gi_at_call 18; refine (callsIn_wide.2 (draw_at.calls A0 c0 l0 nx z y _ HC.out Hc0.out HA.out)).mono ?_; rintro e2 w1 ⟨rfl, hb⟩; have HB := Aside0.mk hb; clear hb; have HJ1 := Aside0.mk (HJ.out _ _ w1 none HJs.out ⟨HB.out.os, HB.out.tape, HB.out.output, HB.out.size, fun q hq _ => HB.out.block q hq⟩ (fun r hr => by cases hr) ⟨_, (HB.out.block Bi HBi.out.lt).trans HBi.out⟩); obtain ⟨fn, tmps, assign, body, hy, hR⟩ := HY.out _ y w1 HJ1.out HL.out)
      refine hR.mono ?_
      rintro e3 W3 ⟨rfl, hJ3, hk3, hk4, hk5, hk6⟩
      have bi3 : Boxed W3 Bi 3 (.int .i64 z) := hk4.trans ((HB.out.block Bi HBi.out.lt).trans HBi.out)
      have be3 : Boxed W3 Be 3 (.int .i64 e) := hk5.trans ((HB.out.block Be HBe.out.lt).trans HBe.out)
      have bd3 : W3.heap[Bd]? = some (.cells #[.slice A0 l0.length c0, .int .i64 nx] 24 (0, 0)) := hk6.trans ((HB.out.block Bd (Array.getElem?_eq_some_iff.1 HBd.out).1).trans HBd.out)
      have HJ3 := Aside0.mk hJ3
      have Hk3 := Aside0.mk hk3
      have c3 := bi3.cell
      have f3 := bi3.frozen
      have HB3 := Aside0.mk bi3
      have HE3 := Aside0.mk be3
      have HD3 := Aside0.mk bd3
      clear hJ3 hk3 hk4 hk5 hk6 bi3 be3 bd3
      gi_wp2
      go_roundw
      case rel =>
        have ek : wrap64 (z + 1) = peek.idx i0 (k + 1) := by rw [peek.idx_succ, Hz.out]
        have bn : Boxed (W3.setCell ⟨Bi, 0, none⟩ (.int .i64 (wrap64 (z + 1)))) Bi 3 (.int .i64 (wrap64 (z + 1))) := peek.boxed_set HB3.out _
        refine ⟨k + 1, Hlt.out, ?_, ?_, ?_, ?_, ?_⟩
        · rw [Hy.out]
          exact HJ.out _ _ _ (some Bi) HJ3.out (peek.grown_set _ _ _) (fun r hr => by cases hr; rfl) ⟨_, bn⟩
        · exact Hnx.out.trans ((HB.out.mono Hsz.out).trans (Hk3.out.setCell (p := ⟨Bi, 0, none⟩) Hh3.out _))
        · rw [← ek]; exact bn
        · exact (Below.heap_setCell W3 ⟨Bi, 0, none⟩ _ Be (fun q => Hh1.out q.symm)).trans HE3.out
        · exact (Below.heap_setCell W3 ⟨Bi, 0, none⟩ _ Bd (fun q => Hh2.out q.symm)).trans HD3.out
      case measure =>
        have bn : Boxed (W3.setCell ⟨Bi, 0, none⟩ (.int .i64 (wrap64 (z + 1)))) Bi 3 (.int .i64 (wrap64 (z + 1))) := peek.boxed_set HB3.out _
        have q := bn.cell
        simp only [q, cBi]
        exact peek.left_lt e z Hlo.out Hh.out Hle.out
    · have hge : ¬ peek.idx i0 k < e := fun q => hlt ((hN k hk).mpr q)
      have hd1 : decide (peek.idx i0 k < e) = false := decide_eq_false hge
      have hkx : k = xs.length := by omega
      have HJs := Aside0.mk hJs
      have Hk := Aside0.mk hkx
      clear hJs hkx hge hlt hk hat hJ hY hN hw h0 h3 hBi hBe hBd hd
      gi_wp2
      go_end0
      exact ⟨⟨_, rfl⟩, _, rfl, by have := HJs.out; rw [Hk.out, List.take_length] at this; exact this⟩
/-- draws.from hands back its closure, over three boxes. -/
theorem peek.made (A0 : Option Addr) (c0 n0 : Nat) (nx i0 e : Int) (w : World) :
    Calls Try.prog 20 #[.agg #[.slice A0 n0 c0, .int .i64 nx], .int .i64 i0, .int .i64 e] w fun en w' => en = .returned (.func (.func 23) #[] #[.pointer (some ⟨w.heap.size + 1, 0, none⟩), .pointer (some ⟨w.heap.size + 2, 0, none⟩), .pointer (some ⟨w.heap.size, 0, none⟩)]) ∧
      w' = ((w.alloc (.cells #[.slice A0 n0 c0, .int .i64 nx] 24)).alloc (.cells #[.int .i64 i0] 3)).alloc (.cells #[.int .i64 e] 3) := by
  have hmf : ∀ (fn : Fn) (first cap : Array Value) (w : World), (Instr.makeFunc fn first cap).run Try.prog w = .ok (.func fn first cap) w := fun _ _ _ _ => rfl
  go_enter Try.func20, Try.ntmps20
  go_wp2
  go_ret
  exact ⟨by simp, rfl⟩
theorem peek.runs (k : Nat) : ∀ (acc : List Int) (i e : Int) (l0 : List Int) (nx : Int) (r : List Int), draw_Peek.l0 k acc i e l0 nx = some r →
    ∃ xs, r = acc ++ xs ∧ (∀ j (hj : j < xs.length), draw_at.f l0 nx (peek.idx i j) = some xs[j]) ∧ (∀ j : Nat, j ≤ xs.length → (j < xs.length ↔ peek.idx i j < e)) ∧ (xs.length = 0 ∨ acc.length + xs.length ≤ 35184372088832) := by
  induction k with
  | zero => intro acc i e l0 nx r h; simp [draw_Peek.l0] at h
  | succ k ih =>
    intro acc i e l0 nx r h
    rw [draw_Peek.l0] at h
    by_cases c : i < e
    · rw [if_pos c] at h
      obtain ⟨t, ht, h⟩ := Option.bind_eq_some_iff.mp h
      by_cases c2 : acc.length < 35184372088832
      · rw [if_pos c2] at h
        obtain ⟨xs, h1, h2, h3, h4⟩ := ih _ _ _ _ _ _ h
        refine ⟨t :: xs, by rw [h1]; simp, ?_, ?_, .inr (by rw [List.length_cons]; rcases h4 with q | q; (rw [q]; omega); (rw [List.length_append, List.length_cons, List.length_nil] at q; omega))⟩
        · intro j hj
          cases j with
          | zero => exact ht
          | succ j => exact h2 j (by simpa using hj)
        · intro j hj
          cases j with
          | zero => exact ⟨fun _ => c, fun _ => by simp⟩
          | succ j =>
            have := h3 j (by simpa using hj)
            simp only [List.length_cons, Nat.add_lt_add_iff_right]
            exact this
      · rw [if_neg c2] at h; cases h
    · rw [if_neg c] at h
      cases h
      refine ⟨[], by simp, fun j hj => by simp at hj, fun j hj => ?_, .inl rfl⟩
      have : j = 0 := by simpa using hj
      subst this
      exact ⟨fun q => by simp at q, fun q => absurd q c⟩
/-- What is neither the row's block nor the box stays. -/
theorem peek.other {W w1 : World} {tmp : Obj} {Bo n m : Nat} {v v2 : Value} {cs : List Value} (hrow : W.ownsRow n 27 1 v m cs) (hgrow : (W.alloc tmp).grownBy w1 v.ownBlock) (k : Nat) (o : Obj) (hk : W.heap[k]? = some o) (h1 : k ≠ Bo) (h2 : ∀ cur, o ≠ .cells cur 27 (0, 0)) :
    (w1.setCell ⟨Bo, 0, none⟩ v2).heap[k]? = some o := by
  have hlt := (Array.getElem?_eq_some_iff.1 hk).1
  refine (Below.heap_setCell w1 ⟨Bo, 0, none⟩ _ k h1).trans ((hgrow.block k (by simp; omega) (fun q => ?_)).trans ((Below.heap_alloc _ _ _ hlt).trans hk))
  rcases hrow.2 with ⟨rfl, _⟩ | ⟨g, cap, cur, rfl, _, hgb, _⟩
  · simp [Value.ownBlock] at q
  · have : k = g := by simpa [Value.ownBlock] using q
    subst this
    rw [hk] at hgb
    exact h2 cur (Option.some.inj hgb)
set_option maxHeartbeats 8000000 in
set_option maxRecDepth 100000 in
theorem draw_Peek.calls (k : Nat) (A0_0 : Option Addr) (c0_0 : Nat) (l0_0 : List Int) (a0_1 : Int) (a1 : Int) (r : List Int) (w : World) (hr0_0 : Kd.C (Kd.int .u32) w A0_0 l0_0.length l0_0) (hc0_0 : l0_0.length ≤ c0_0) (h : draw_Peek.f k l0_0 a0_1 a1 = some r) :
    Calls Try.prog 13 #[.agg #[.slice A0_0 l0_0.length c0_0, .int .i64 a0_1], .int .i64 a1] w fun e w' => ∃ v0_ : Value, e = .returned (v0_) ∧ Kd.R (Kd.int .u32) 27 w' w.heap.size (fun _ => True) v0_ r ∧ Below w.heap.size w w' := by
  obtain ⟨e, he⟩ : ∃ e, e = wrap64 (a0_1 + a1) := ⟨_, rfl⟩
  obtain ⟨xs, hr, hat, hN, hlim⟩ := peek.runs k _ _ _ _ _ _ h
  rw [← he] at hN
  have elo : -9223372036854775808 ≤ e := by rw [he]; unfold wrap64; omega
  have ehi : e ≤ 9223372036854775807 := by rw [he]; unfold wrap64; omega
  rw [List.nil_append] at hr
  simp only [List.length_nil, Nat.zero_add] at hlim
  obtain ⟨i0, hi, hz0, hz1, hz2⟩ := info_parts info27
  have HR := Aside0.mk hr0_0
  have HC := Aside0.mk hc0_0
  have Hat := Aside0.mk hat
  have HN := Aside0.mk hN
  have Hlim := Aside0.mk hlim
  have Hlo := Aside0.mk elo
  have Hhi := Aside0.mk ehi
  have Hr := Aside0.mk hr
  clear hr0_0 hc0_0 h hat hN hlim elo ehi hr
  refine (callsIn_wide (n := 5)).1 ?_
  refine callsIn_of_wp_marks Try.func13 rfl trivial ?_ rfl
  simp only [Try.ntmps13, List.size_toArray, List.length_cons, List.length_nil, Nat.reduceAdd, Nat.reduceSub, Array.replicate_succ, Array.replicate_zero, List.push_toArray, List.append_toArray, List.nil_append, List.cons_append]
  gi_wp2_with (refine ⟨trivial, ?_⟩; gi_at_call 20; refine (callsIn_wide.2 (peek.made _ _ _ _ _ _ _)).mono ?_; rintro en w1 ⟨rfl, rfl⟩)
  rw [← he]
  clear he
  obtain ⟨W2, hW2⟩ : ∃ W2 : World, W2 = (((((w.alloc (.cells #[.slice A0_0 l0_0.length c0_0, .int .i64 a0_1] 24)).alloc (.cells #[.slice none 0 0] 22)).alloc (.cells #[.slice A0_0 l0_0.length c0_0, .int .i64 a0_1] 24)).alloc (.cells #[.int .i64 a0_1] 3)).alloc (.cells #[.int .i64 e] 3)) := ⟨_, rfl⟩
  rw [← hW2]
  have hs2 : W2.heap.size = w.heap.size + 5 := by rw [hW2]; simp
  have bO : Boxed W2 (w.heap.size + 1) 22 (.slice none 0 0) := by
    have := Boxed.new (w.alloc (.cells #[.slice A0_0 l0_0.length c0_0, .int .i64 a0_1] 24)) 22 (.slice none 0 0)
    rw [World.size_alloc] at this
    rw [hW2]
    exact ((this.alloc _).alloc _).alloc _
  have bD : W2.heap[w.heap.size + 1 + 1]? = some (.cells #[.slice A0_0 l0_0.length c0_0, .int .i64 a0_1] 24 (0, 0)) := by
    have := World.alloc_heap_new ((w.alloc (.cells #[.slice A0_0 l0_0.length c0_0, .int .i64 a0_1] 24)).alloc (.cells #[.slice none 0 0] 22)) (.cells #[.slice A0_0 l0_0.length c0_0, .int .i64 a0_1] 24)
    rw [World.size_alloc, World.size_alloc] at this
    rw [hW2]
    exact (Below.heap_alloc _ _ _ (by simp)).trans ((Below.heap_alloc _ _ _ (by simp)).trans this)
  have bI : Boxed W2 (w.heap.size + 1 + 1 + 1) 3 (.int .i64 a0_1) := by
    have := Boxed.new (((w.alloc (.cells #[.slice A0_0 l0_0.length c0_0, .int .i64 a0_1] 24)).alloc (.cells #[.slice none 0 0] 22)).alloc (.cells #[.slice A0_0 l0_0.length c0_0, .int .i64 a0_1] 24)) 3 (.int .i64 a0_1)
    rw [World.size_alloc, World.size_alloc, World.size_alloc] at this
    rw [hW2]
    exact this.alloc _
  have bE : Boxed W2 (w.heap.size + 1 + 1 + 2) 3 (.int .i64 e) := by
    have := Boxed.new ((((w.alloc (.cells #[.slice A0_0 l0_0.length c0_0, .int .i64 a0_1] 24)).alloc (.cells #[.slice none 0 0] 22)).alloc (.cells #[.slice A0_0 l0_0.length c0_0, .int .i64 a0_1] 24)).alloc (.cells #[.int .i64 a0_1] 3)) 3 (.int .i64 e)
    rw [World.size_alloc, World.size_alloc, World.size_alloc, World.size_alloc] at this
    rw [hW2]
    exact this
  have hB2 : Below w.heap.size w W2 := by rw [hW2]; exact (((((Below.refl _ w).alloc (Nat.le_refl _) _).alloc (by simp) _).alloc (by simp; omega) _).alloc (by simp; omega) _).alloc (by simp; omega) _
  clear hW2
  have keep : ∀ {A B : World} {row : Option Nat} {k : Nat} {o : Obj}, A.grownBy B row → (∀ r, row = some r → r ≠ k) → A.heap[k]? = some o → B.heap[k]? = some o := fun hg hr hk =>
    (hg.block _ (Array.getElem?_eq_some_iff.1 hk).1 (fun q => hr _ q.symm rfl)).trans hk
  refine peek.range_mine (n := 5) rfl (by omega) (gf := 23) (lb := #[.pointer (some ⟨w.heap.size + 1 + 1 + 1, 0, none⟩), .pointer (some ⟨w.heap.size + 1 + 1 + 2, 0, none⟩), .pointer (some ⟨w.heap.size + 1 + 1, 0, none⟩)]) rfl trivial (enters_of Try.func23 (by kernel_rfl) rfl)
    (encs := fun x : Int => #[Value.int .u32 x]) (Kp := peek.KP w.heap.size (w.heap.size + 1 + 1 + 1) (w.heap.size + 1 + 1 + 2) (w.heap.size + 1 + 1)) (S := fun ys => ys = xs) (N := xs.length)
    (fun B => ∃ i : Int, Boxed B (w.heap.size + 1 + 1 + 1) 3 (.int .i64 i)) (w.heap.size + 1 + 1 + 1) (by omega)
    (fun l J W hW hJ hY h0 => peek.iter 3 l _ _ _ w.heap.size A0_0 c0_0 l0_0 a0_1 a0_1 e xs Hlo.out Hhi.out HN.out Hat.out (by omega) (by omega) (by omega) J (fun s A B row h1 h2 h3 h4 => hJ s A B row h1 h2 h3 h4) hY W
      ⟨w, Nat.le_refl _, hB2.trans (hW.mono (by omega)), HR.out, rfl⟩ HC.out ((hW.block _ bI.lt).trans bI) ((hW.block _ bE.lt).trans bE) ((hW.block _ (Array.getElem?_eq_some_iff.1 bD).1).trans bD) h0)
    (fun h k => ⟨h.1.trans k.1, k.2.1.trans h.2.1, k.2.2.1.trans h.2.2.1, k.2.2.2.trans h.2.2.2⟩)
    (fun W l o o' hl h h1 h2 => ⟨(Below.refl _ W).grown (grownBy_putObj' W l o') (by have := (Array.getElem?_eq_some_iff.1 h).1; omega) (fun k q => by cases q; omega), World.putObj_heap_other (by omega), World.putObj_heap_other (by omega), World.putObj_heap_other (by omega)⟩)
    (fun _ => rfl)
    (fun pre W => (∃ v, Boxed W (w.heap.size + 1) 22 v ∧ W.ownsRow w.heap.size 27 1 v pre.length (pre.map (Value.int .u32))) ∧ Below w.heap.size w W ∧ (∃ i : Int, Boxed W (w.heap.size + 1 + 1 + 1) 3 (.int .i64 i)) ∧ Boxed W (w.heap.size + 1 + 1 + 2) 3 (.int .i64 e) ∧ W.heap[w.heap.size + 1 + 1]? = some (.cells #[.slice A0_0 l0_0.length c0_0, .int .i64 a0_1] 24 (0, 0)))
    ?hI ?hIm ⟨⟨_, bO, World.ownsRow_nil _ _ _ _⟩, hB2, ⟨_, bI⟩, bE, bD⟩
    (fun x => { tmps := #[.agg #[.slice A0_0 l0_0.length c0_0, .int .i64 a0_1], .int .i64 a1, .pointer (some ⟨w.heap.size, 0, none⟩), undef, .slice none 0 0, .pointer (some ⟨w.heap.size + 1, 0, none⟩), .int .u32 x, .agg #[.slice A0_0 l0_0.length c0_0, .int .i64 a0_1], .pointer (some ⟨w.heap.size, 1, none⟩), .int .i64 a0_1, .pointer (some ⟨w.heap.size, 1, none⟩), .int .i64 a0_1, .int .i64 a1, .int .i64 e, .func (.func 23) #[] #[.pointer (some ⟨w.heap.size + 1 + 1 + 1, 0, none⟩), .pointer (some ⟨w.heap.size + 1 + 1 + 2, 0, none⟩), .pointer (some ⟨w.heap.size + 1 + 1, 0, none⟩)], .int .u32 x, undef, undef, undef, undef, undef], defers := [] }) ?assign ?body ?done
  case hI =>
    rintro s A B row ⟨⟨v, hv, hrow⟩, hB, ⟨i, hbi⟩, hbe, hbd⟩ hg hr
    have ne : ∀ k (o : Obj), A.heap[k]? = some o → o.isCells = true → ∀ r, row = some r → r ≠ k := by
      intro k o ho hc r hr' q
      obtain ⟨_, o', ho', hc'⟩ := hr r hr'
      rw [q, ho] at ho'
      cases ho'
      rw [hc] at hc'
      cases hc'
    refine ⟨⟨v, keep hg (ne _ _ hv rfl) hv, hrow.kept hg ?_⟩, hB.grown hg hB.size (fun k q => by have := (hr k q).1; omega), ⟨i, keep hg (ne _ _ hbi rfl) hbi⟩, keep hg (ne _ _ hbe rfl) hbe, keep hg (ne _ _ hbd rfl) hbd⟩
    rcases hrow.2 with ⟨rfl, _⟩ | ⟨g, cap, cur, rfl, _, hgb, _⟩
    · exact .inl rfl
    · refine .inr fun e' => ?_
      exact ne g _ hgb rfl g (by simpa [Value.ownBlock] using e'.symm) rfl
  case hIm =>
    rintro s A B row ⟨⟨v, hv, hrow⟩, hB, ⟨i, hbi⟩, hbe, hbd⟩ hg hr hG
    refine ⟨⟨v, keep hg (fun r q => by have := hr r q; omega) hv, hrow.kept hg ?_⟩, hB.grown hg hB.size (fun k q => by have := hr k q; omega), hG, keep hg (fun r q => by have := hr r q; omega) hbe, keep hg (fun r q => by have := hr r q; omega) hbd⟩
    rcases hrow.2 with ⟨rfl, _⟩ | ⟨g, cap, cur, rfl, _, hgb, _⟩
    · exact .inl rfl
    · refine .inr fun e' => ?_
      have q : g = w.heap.size + 1 + 1 + 1 := hr g (by simpa [Value.ownBlock] using e'.symm)
      rw [q] at hgb
      have hbi' : A.heap[w.heap.size + 1 + 1 + 1]? = _ := hbi
      rw [hgb] at hbi'
      cases hbi'
  case assign =>
    intro l x W K hK
    gi_wp2
    exact hK
  case body =>
    rintro l pre x W ⟨⟨v, hv, hrow⟩, hB, ⟨i, hbi⟩, hbe, hbd⟩ hlt
    have hc := hv.cell
    have hx : xs.length ≤ 35184372088832 := by rcases Hlim.out with q | q <;> omega
    have hmx : pre.length + 1 ≤ maxLen := by unfold maxLen; omega
    have h4 : (pre.length + 1) * 4 ≤ 140737488355328 := by omega
    have HX := Aside0.mk hx
    have HBI := Aside0.mk hbi
    have HBE := Aside0.mk hbe
    have HBD := Aside0.mk hbd
    have HM := Aside0.mk hmx
    have H4 := Aside0.mk h4
    clear hbi hbe hbd hx hmx h4 hlt
    gi_wp2_with (gi_at_builtin; refine wpListIn_append_own _ rfl _ _ 22 rfl w.heap.size 27 i0 (.int .u32 0) 1 4 Try.underlying22 hi hz0 hz1 hz2 rfl (by decide) _ _ _ rfl (hrow.alloc _) ⟨W.heap.size, 0, none⟩ 1 1 [.int .u32 x] rfl rfl (cell_one_new _ _ _) (by simp [Value.oneCell']) HM.out H4.out (by have := hB.size; simp; omega) ?_; intro v' w1 hown' hgrow _; obtain ⟨g', cap', rfl⟩ := ownsRow_succ hown'; obtain ⟨hv1, hv2, hr2, hk2, hb2⟩ := hv.appended (by decide) hrow hB.size (Nat.le_succ _) hown' hgrow; have hc1 := hv1.cell; have hf1 := hv1.frozen)
    exact ⟨hk2, ⟨hb2, (peek.other hrow hgrow _ _ HBI.out (by omega) (fun cur q => by cases q)).trans HBI.out.symm, (peek.other hrow hgrow _ _ HBE.out (by omega) (fun cur q => by cases q)).trans HBE.out.symm, (peek.other hrow hgrow _ _ HBD.out (by omega) (fun cur q => by cases q)).trans HBD.out.symm⟩,
      ⟨_, hv2, by simpa using hr2⟩, hB.trans hb2, ⟨i, peek.other hrow hgrow _ _ HBI.out (by omega) (fun cur q => by cases q)⟩, peek.other hrow hgrow _ _ HBE.out (by omega) (fun cur q => by cases q), peek.other hrow hgrow _ _ HBD.out (by omega) (fun cur q => by cases q)⟩
  case done =>
    rintro D ys W hD rfl ⟨⟨v, hv, hrow⟩, hB, _⟩ hK
    have hc := hv.cell
    gi_wp2
    refine ⟨by simp, .inl ⟨_, _, rfl, run_takeDeferred hK, ?_⟩⟩
    refine ⟨_, results_tmp rfl _ _ _, v, rfl, ?_, hB.grown (grownBy_putObj' W D _) hB.size (fun k q => by cases q; omega)⟩
    rw [Hr.out]
    exact Kd.R_of_own (ownsRow_putObj hrow _ hK rfl) (fun _ _ => trivial)

/-! ### draw_Drawn: function 15 -/
def draw_Drawn.f (k : Nat) (l0_0 : List Int) (a0_1 : Int) : Option (List Int) := (draw_Peek.f k l0_0 0 a0_1).bind fun t116 => (some t116)
theorem draw_Drawn.mono : ∀ a0 a1 k, LeO (draw_Drawn.f k a0 a1) (draw_Drawn.f (k + 1) a0 a1) := by
  intro a0 a1 k
  unfold draw_Drawn.f
  repeat' first
      | (with_reducible exact draw_Peek.mono _ _ _ _)
      | (with_reducible exact LeO.refl _)
      | (with_reducible exact LeO.none _)
      | (with_reducible refine LeO.ite ?_ ?_)
      | (with_reducible refine LeO.bind ?_ (fun _ => ?_))
      | exact draw_Peek.mono _ _ _ _
      | exact LeO.none _
      | refine LeO.ite ?_ ?_
      | refine LeO.bind ?_ (fun _ => ?_)
set_option maxHeartbeats 8000000 in
set_option maxRecDepth 100000 in
theorem draw_Drawn.calls (k : Nat) (A0_0 : Option Addr) (c0_0 : Nat) (l0_0 : List Int) (a0_1 : Int) (r : List Int) (w : World) (hr0_0 : Kd.C (Kd.int .u32) w A0_0 l0_0.length l0_0) (hc0_0 : l0_0.length ≤ c0_0) (h : draw_Drawn.f k l0_0 a0_1 = some r) :
    Calls Try.prog 15 #[.agg #[.slice A0_0 l0_0.length c0_0, .int .i64 a0_1]] w fun e w' => ∃ v0_ : Value, e = .returned (v0_) ∧ Kd.R (Kd.int .u32) 27 w' w.heap.size (fun _ => True) v0_ r ∧ Below w.heap.size w w' := by
  have hu24 := Try.underlying24
  have HR0_0 := Aside0.mk hr0_0
  have HC0_0 := Aside0.mk hc0_0
  clear hr0_0 hc0_0
  have HB := Aside0.mk (Below.refl w.heap.size w)
  have H : ((draw_Peek.f k l0_0 0 a0_1).bind fun t116 => (some t116)) = some r := h
  clear h
  replace H := Option.bind_eq_some_iff.mp H
  obtain ⟨t116, A20, H⟩ := H
  replace H : (some t116) = some r := H
  have A2 := Aside0.mk A20
  clear A20
  obtain rfl := Option.some.inj H
  go_enter Try.func15, Try.ntmps15
  go_wp2_with (first | ((with_reducible refine gate_dst (N := 1) rfl ?_); refine box_event ?hg (N := 1) ?hd (cs := #[.slice A0_0 l0_0.length c0_0, .int .i64 a0_1]) (t := 24) ?hr ?_; (case hd => rfl); (case hg => rfl); (case hr => first | (go_simp; done) | (go_simp; rfl)); intro gb115 hg w3 hbox hb; have n0_ := Aside0.mk (below_step (by repeat (first | (with_reducible first | exact HB.out | apply below_alloc | apply pw_below_drewN | apply below_drew1) | exact HB.out)) hb); have n1_ := Aside0.mk (hbox); have n2_ := Aside0.mk ((by rw [hg]; exact (below_size (by repeat (first | (with_reducible first | exact HB.out | apply below_alloc | apply pw_below_drewN | apply below_drew1) | exact HB.out))) : w.heap.size ≤ gb115)); have n3_ := Aside0.mk ((by rw [hg]; exact (below_size (by repeat (first | (with_reducible first | exact HB.out | apply below_alloc | apply pw_below_drewN | apply below_drew1) | exact HB.out))) : w.heap.size ≤ gb115)); clear HB; have HB := n0_; have BK115 := n1_; have GW115 := n2_; have GE115 := n3_; clear n0_ n1_ n2_ n3_; clear hb hbox hg; have hcz4_0 : w3.cell? ⟨gb115, 0, none⟩ = some (.slice A0_0 l0_0.length c0_0) := (blk_cell BK115.out 0).trans rfl; have hcz4_1 : w3.cell? ⟨gb115, 1, none⟩ = some (.int .i64 a0_1) := (blk_cell BK115.out 1).trans rfl; have hfz4_0 := blk_frozen BK115.out 0; have hfz4_1 := blk_frozen BK115.out 1) | ((with_reducible refine gate_callee (f := 13) rfl ?_); refine goesL_ (some 9) rfl rfl Try.func13 (by kernel_rfl) rfl #[.agg #[.slice A0_0 l0_0.length c0_0, .int .i64 0], .int .i64 a0_1] rfl (by (try simp only [List.map_toArray, List.map_cons, List.map_nil]); first | done | rfl | (simp only [List.length_drop, List.length_take]; rfl)) ?_; (with_reducible refine (draw_Peek.calls k _ _ l0_0 0 a0_1 t116 _ ?side1 ?side2 A2.out).mono ?_); (case side1 => exact Kd.C_below HR0_0.out (by repeat (first | (with_reducible first | exact HB.out | apply below_alloc | apply pw_below_drewN | apply below_drew1 | refine below_set ?_ GE115.out) | exact HB.out))); (case side2 => exact HC0_0.out); rintro e w5 ⟨v117, rfl, ho0, hb⟩; refine ⟨_, rfl, ?_⟩; have n0_ := Aside0.mk (Kd.R_lower ho0 (below_size (by repeat (first | (with_reducible first | exact HB.out | apply below_alloc | apply pw_below_drewN | apply below_drew1 | refine below_set ?_ GE115.out) | exact HB.out)))); have n1_ := Aside0.mk (blk_below (g := gb115) (o := .cells #[.slice A0_0 l0_0.length c0_0, .int .i64 0] 24 (0, 0)) (by (with_reducible repeat (first | refine blk_drewN ?_ _ | refine blk_drew ?_ | refine blk_alloc ?_ _)); refine blk_put (cs := #[.slice A0_0 l0_0.length c0_0, .int .i64 a0_1]) ?_ 1 _ rfl; (with_reducible repeat (first | refine blk_drewN ?_ _ | refine blk_drew ?_ | refine blk_alloc ?_ _)); exact BK115.out) hb); have n2_ := Aside0.mk (below_step (by repeat (first | (with_reducible first | exact HB.out | apply below_alloc | apply pw_below_drewN | apply below_drew1 | refine below_set ?_ GE115.out) | exact HB.out)) hb); clear BK115; clear HB; have HO118 := n0_; have BK115 := n1_; have HB := n2_; clear n0_ n1_ n2_; (try clear hb); (try clear hb2); (try clear hk); (try clear hi); (try clear ho0)))
  go_ret
  exact ⟨_, by first | rfl | (simp [errW_none, errW_some] <;> rfl) | (simp [*, errW_none, errW_some] <;> rfl), by (with_reducible repeat (first | apply Kd.R_alloc | apply Kd.R_drewN | apply Kd.R_drew)); exact HO118.out, by repeat (first | (with_reducible first | exact HB.out | apply below_alloc | apply pw_below_drewN | apply below_drew1 | refine below_set ?_ GE115.out) | exact HB.out)⟩

/-! ### draw_Unlike: function 16 -/
mutual
def draw_Unlike.l0 : Nat → List Int → Int → Option (Bool)
  | 0, _, _ => none
  | k + 1, x0, x3 => if x3 < (x0.length : Int) then (if 0 ≤ x3 then (if (rd x0 x3) = ((wrap64 (rd x0 x3)) % 4294967296) then (draw_Unlike.l1 k x0 x3 0) else (none)) else (none)) else (some true)
def draw_Unlike.l1 : Nat → List Int → Int → Int → Option (Bool)
  | 0, _, _, _ => none
  | k + 1, x0, x3, x8 => if x8 < x3 then (if 0 ≤ x8 then (if x8 < (x0.length : Int) then (if 0 ≤ x3 then (if x3 < (x0.length : Int) then (if (rd x0 x8) = (rd x0 x3) then (some false) else (draw_Unlike.l1 k x0 x3 (wrap64 (x8 + 1)))) else (none)) else (none)) else (none)) else (none)) else (draw_Unlike.l0 k x0 (wrap64 (x3 + 1)))
end
def draw_Unlike.f (k : Nat) (l0 : List Int) : Option (Bool) := if (l0.length : Int) > 4611686018427387904 then (none) else (draw_Unlike.l0 k l0 0)
theorem draw_Unlike.mono_l : ∀ k, (∀ y0 y1, LeO (draw_Unlike.l0 k y0 y1) (draw_Unlike.l0 (k + 1) y0 y1)) ∧ (∀ y0 y1 y2, LeO (draw_Unlike.l1 k y0 y1 y2) (draw_Unlike.l1 (k + 1) y0 y1 y2))
  | 0 => ⟨fun _ _ r h => by simp [draw_Unlike.l0] at h, fun _ _ _ r h => by simp [draw_Unlike.l1] at h⟩
  | k + 1 => by
    obtain ⟨ih0, ih1⟩ := draw_Unlike.mono_l k
    refine ⟨?_, ?_⟩
    · intro y0 y1
      unfold draw_Unlike.l0
      repeat' first
      | (with_reducible exact ih0 _ _)
      | (with_reducible exact ih1 _ _ _)
      | (with_reducible exact LeO.refl _)
      | (with_reducible exact LeO.none _)
      | (with_reducible refine LeO.ite ?_ ?_)
      | (with_reducible refine LeO.bind ?_ (fun _ => ?_))
      | exact ih0 _ _
      | exact ih1 _ _ _
      | exact LeO.none _
      | refine LeO.ite ?_ ?_
      | refine LeO.bind ?_ (fun _ => ?_)
    · intro y0 y1 y2
      unfold draw_Unlike.l1
      repeat' first
      | (with_reducible exact ih0 _ _)
      | (with_reducible exact ih1 _ _ _)
      | (with_reducible exact LeO.refl _)
      | (with_reducible exact LeO.none _)
      | (with_reducible refine LeO.ite ?_ ?_)
      | (with_reducible refine LeO.bind ?_ (fun _ => ?_))
      | exact ih0 _ _
      | exact ih1 _ _ _
      | exact LeO.none _
      | refine LeO.ite ?_ ?_
      | refine LeO.bind ?_ (fun _ => ?_)
theorem draw_Unlike.mono : ∀ a0 k, LeO (draw_Unlike.f k a0) (draw_Unlike.f (k + 1) a0) := by
  intro a0 k
  obtain ⟨ih0, ih1⟩ := draw_Unlike.mono_l k
  unfold draw_Unlike.f
  repeat' first
      | (with_reducible exact ih0 _ _)
      | (with_reducible exact ih1 _ _ _)
      | (with_reducible exact LeO.refl _)
      | (with_reducible exact LeO.none _)
      | (with_reducible refine LeO.ite ?_ ?_)
      | (with_reducible refine LeO.bind ?_ (fun _ => ?_))
      | exact ih0 _ _
      | exact ih1 _ _ _
      | exact LeO.none _
      | refine LeO.ite ?_ ?_
      | refine LeO.bind ?_ (fun _ => ?_)
theorem unlk.look {P : Program} (w : World) {ops : Array Oper} {rest : List Oper} {o : Oper} {a : Act} {Q : Exit → Act → World → Prop}
    (hg : o.guard = none) (m x : Operand) (t : TypeId) (hop : o.op = Op.lookup t m x false)
    (k e : TypeId) (K : Maps.Keyed P k) (ht : P.underlying t = some (.map k e)) (he : P.underlying e = some .bool) (hz : (zeroValue e).run P w = .ok (.bool false) w) (b n : Nat) (D : DataW Unit)
    (hm : a.eval m = .map (some b)) (hown : w.ownsMap P k (plainElem P e) b n D) (key : Value) (kl : Lit) (hx : a.eval x = key) (hkey : keyOf P k key = some kl) (c : Bool) (hc : D.atKey kl (.lit (.bool false)) = .lit (.bool c))
    (hK : wpList P ops Q rest (a.put o.dst (.bool c)) w) :
    wpList P ops Q (o :: rest) a w := by
  refine wpList_plain hg fun K' hK' => ?_
  obtain ⟨v, ps, hrun, hv⟩ := hown.lookup K ht hz (plainElem_bool he false) hkey
  obtain rfl : v = .bool c := by
    rw [hc] at hv
    unfold plainElem at hv
    rw [he] at hv
    cases v <;> simp at hv
    rw [hv.1]
  unfold Oper.wp
  simp [execOp, hop, hm, hx, hrun, Result.andThen]
  exact hK' _ _ hK
/-- What the map holds behind so many elements. -/
def unlk.D (l : List Int) : Nat → DataW Unit
  | 0 => .map []
  | i + 1 => (unlk.D l i).put (.int .u32 (rd l (i : Int))) (.lit (.bool true))
theorem unlk.isMap (l : List Int) : ∀ i, Maps.IsMap (unlk.D l i)
  | 0 => Maps.isMap_empty
  | i + 1 => (unlk.isMap l i).put _ _
theorem unlk.at_ (l : List Int) (x : Int) : ∀ i : Nat, ((∃ t : Nat, t < i ∧ rd l (t : Int) = x) → (unlk.D l i).atKey (.int .u32 x) (.lit (.bool false)) = .lit (.bool true)) ∧ ((¬ ∃ t : Nat, t < i ∧ rd l (t : Int) = x) → (unlk.D l i).atKey (.int .u32 x) (.lit (.bool false)) = .lit (.bool false)) := by
  intro i
  induction i with
  | zero => exact ⟨fun ⟨t, h, _⟩ => absurd h (by omega), fun _ => rfl⟩
  | succ i ih =>
    unfold unlk.D
    by_cases e : rd l (i : Int) = x
    · rw [← e]
      refine ⟨fun _ => Maps.atKey_put_same (unlk.isMap l i) (show WideAt.IsKeyLit (.int .u32 (rd l (i : Int))) from trivial) _ _, fun h => absurd ⟨i, by omega, rfl⟩ h⟩
    · have ne : (Lit.int .u32 x) ≠ (Lit.int .u32 (rd l (i : Int))) := fun h => e (by injection h with _ h2; exact h2.symm)
      rw [Maps.atKey_put_other ne]
      refine ⟨fun ⟨t, h1, h2⟩ => ih.1 ⟨t, ?_, h2⟩, fun h => ih.2 (fun ⟨t, h1, h2⟩ => h ⟨t, by omega, h2⟩)⟩
      rcases Nat.lt_or_ge t i with q | q
      · exact q
      · have : t = i := by omega
        subst this
        exact absurd h2 e
theorem unlk.inner (l : List Int) (i : Nat) (r : Bool) (hi : i < l.length) (hm : l.length ≤ 4611686018427387904) : ∀ (d k j : Nat), i - j = d → j ≤ i → draw_Unlike.l1 k l (i : Int) (j : Int) = some r →
    ((∃ t : Nat, j ≤ t ∧ t < i ∧ rd l (t : Int) = rd l (i : Int)) → r = false) ∧ ((¬ ∃ t : Nat, j ≤ t ∧ t < i ∧ rd l (t : Int) = rd l (i : Int)) → ∃ k', draw_Unlike.l0 k' l ((i + 1 : Nat) : Int) = some r) := by
  intro d
  induction d with
  | zero =>
    intro k j e1 e2 h
    cases k with
    | zero => rw [draw_Unlike.l1] at h; cases h
    | succ k =>
      rw [draw_Unlike.l1, if_neg (by omega)] at h
      refine ⟨fun ⟨t, a, b, _⟩ => by omega, fun _ => ⟨k, ?_⟩⟩
      have e : wrap64 ((i : Int) + 1) = ((i + 1 : Nat) : Int) := by unfold wrap64; omega
      rw [← e]; exact h
  | succ d ih =>
    intro k j e1 e2 h
    cases k with
    | zero => rw [draw_Unlike.l1] at h; cases h
    | succ k =>
      rw [draw_Unlike.l1, if_pos (by omega), if_pos (by omega), if_pos (by omega), if_pos (by omega), if_pos (by omega)] at h
      by_cases c : rd l (j : Int) = rd l (i : Int)
      · rw [if_pos c] at h
        exact ⟨fun _ => (Option.some.inj h).symm, fun n => absurd ⟨j, by omega, by omega, c⟩ n⟩
      · rw [if_neg c] at h
        have e : wrap64 ((j : Int) + 1) = ((j + 1 : Nat) : Int) := by unfold wrap64; omega
        rw [e] at h
        have q := ih k (j + 1) (by omega) (by omega) h
        refine ⟨fun ⟨t, a, b, f⟩ => q.1 ⟨t, ?_, b, f⟩, fun n => q.2 (fun ⟨t, a, b, f⟩ => n ⟨t, by omega, b, f⟩)⟩
        rcases Nat.lt_or_ge j t with z | z
        · exact z
        · have : t = j := by omega
          subst this
          exact absurd f c
theorem unlk.step (l : List Int) (i k : Nat) (r : Bool) (hm : l.length ≤ 4611686018427387904) (h : draw_Unlike.l0 k l (i : Int) = some r) :
    (l.length ≤ i → r = true) ∧ (i < l.length → (Lit.int .u32 (rd l (i : Int))).wf = true ∧ ((∃ t : Nat, t < i ∧ rd l (t : Int) = rd l (i : Int)) → r = false) ∧ ((¬ ∃ t : Nat, t < i ∧ rd l (t : Int) = rd l (i : Int)) → ∃ k', draw_Unlike.l0 k' l ((i + 1 : Nat) : Int) = some r)) := by
  cases k with
  | zero => rw [draw_Unlike.l0] at h; cases h
  | succ k =>
    rw [draw_Unlike.l0] at h
    refine ⟨fun c => ?_, fun c => ?_⟩
    · rw [if_neg (by omega)] at h; exact (Option.some.inj h).symm
    · rw [if_pos (by omega), if_pos (by omega)] at h
      by_cases z : rd l (i : Int) = (wrap64 (rd l (i : Int))) % 4294967296
      · rw [if_pos z] at h
        have q := unlk.inner l i r c hm i k 0 (by omega) (by omega) h
        refine ⟨?_, fun ⟨t, a, b⟩ => q.1 ⟨t, by omega, a, b⟩, fun n => q.2 (fun ⟨t, _, a, b⟩ => n ⟨t, a, b⟩)⟩
        have z1 : 0 ≤ rd l (i : Int) ∧ rd l (i : Int) < 4294967296 := by omega
        simp only [Lit.wf, IntKind.min, IntKind.max, IntKind.signed, IntKind.bits, Bool.and_eq_true]
        simp
        omega
      · rw [if_neg z] at h; cases h
set_option maxHeartbeats 8000000 in
set_option maxRecDepth 100000 in
theorem draw_Unlike.calls (k : Nat) (P0_ : Nat → Prop) (A0 : Option Addr) (c0 : Nat) (l0 : List Int) (r : Bool) (w : World) (hs0 : Kd.V (Kd.int .u32) 27 w w.heap.size (fun k_ => P0_ k_) (.slice A0 l0.length c0) l0) (h : draw_Unlike.f k l0 = some r) :
    Calls Try.prog 16 #[.slice A0 l0.length c0] w fun e w' => e = .returned (.bool r) ∧ Below w.heap.size w w' := by
  have hr0 : Kd.C (Kd.int .u32) w A0 l0.length l0 := (Kd.V_reads' hs0).2.2
  have hmm := @run_makeMap Try.prog
  have hl : l0.length ≤ 4611686018427387904 := by
    unfold draw_Unlike.f at h
    by_cases c : (l0.length : Int) > 4611686018427387904
    · rw [if_pos c] at h; cases h
    · omega
  have h : draw_Unlike.l0 k l0 0 = some r := by
    unfold draw_Unlike.f at h
    rw [if_neg (by omega)] at h
    exact h
  have K : Maps.Keyed Try.prog 27 := Maps.int_keyed Try.underlying27
  have zb : ∀ w : World, (zeroValue 4).run Try.prog w = .ok (.bool false) w := fun _ => by kernel_rfl
  go_enter Try.func16, Try.ntmps16
  go_wp2
  go_loopw [9] (fun i wr => ∃ n kq : Nat, n ≤ l0.length ∧ i = .int .i64 n ∧ draw_Unlike.l0 kq l0 (n : Int) = some r ∧ wr.ownsMap Try.prog 27 (plainElem Try.prog 4) w.heap.size n (unlk.D l0 n) ∧ Below w.heap.size w wr)
    (fun i _ => l0.length - (intOf i).toNat)
  case atStart => exact ⟨0, k, Nat.zero_le _, rfl, h, World.ownsMap_made _ _ _ _, (Below.refl _ _).alloc (Nat.le_refl _) _⟩
  case round =>
    obtain ⟨n, kq, hn, rfl, H, hown, hnx⟩ := hrel
    have st := unlk.step l0 n kq r hl H
    by_cases hlt : n < l0.length
    · obtain ⟨hwf, hseen, hnew⟩ := st.2 hlt
      obtain ⟨ad, e, hcx⟩ := Kd.at_int (Kd.C_below hr0 hnx) (n : Int) (by omega) (by omega)
      subst e
      rw [Int.toNat_natCast] at hcx
      have hkey : keyOf Try.prog 27 (.int .u32 (rd l0 (n : Int))) = some (.int .u32 (rd l0 (n : Int))) := Maps.keyOf_int_mk Try.underlying27 hwf
      by_cases hs : ∃ t : Nat, t < n ∧ rd l0 (t : Int) = rd l0 (n : Int)
      · have hat := (unlk.at_ l0 (rd l0 (n : Int)) n).1 hs
        obtain rfl := hseen hs
        go_wp2_with (first
          | (at_lookup; refine unlk.look _ rfl _ _ 42 rfl 27 4 K Try.underlying42 Try.underlying4 (zb _) w.heap.size n _ rfl hown _ _ rfl hkey true hat ?_)
          | go_in)
        go_ret
        exact ⟨rfl, hnx⟩
      · have hat := (unlk.at_ l0 (rd l0 (n : Int)) n).2 hs
        obtain ⟨k', H'⟩ := hnew hs
        go_wp2_with (first
          | (at_lookup; refine unlk.look _ rfl _ _ 42 rfl 27 4 K Try.underlying42 Try.underlying4 (zb _) w.heap.size n _ rfl hown _ _ rfl hkey false hat ?_)
          | (at_mapUpdate; refine wpList_mapUpdate_own _ rfl _ _ _ 42 rfl 27 4 K Try.underlying42 _ w.heap.size n _ rfl hown (by unfold maxLen; omega) _ _ _ rfl rfl hkey _ [] (plainElem_bool Try.underlying4 true) ?_; intro w1 hown1 hgrow1)
          | go_in)
        go_roundw
        case rel => exact ⟨n + 1, k', by omega, by go_num, H', hown1, hnx.grown hgrow1 hnx.size (fun j hj => by cases hj; exact Nat.le_refl _)⟩
        case measure => simp [intOf]; omega
    · obtain rfl := st.1 (by omega)
      go_wp2
      go_ret
      exact ⟨rfl, hnx⟩

end Go.Proofs.Ytinfkgbbfmeiaaa.PDrawOnce
