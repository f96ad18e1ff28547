-- Written for this claim by wip/tools/myprint.py (print.py's forms; proofs of the faked functions by hand).
import Derived.Test.YtlgbahgddpggfaaPPeopleKeepsx1
import Derived.Test.YtlgbahgddpggfaaPPeopleKeepsx2
import Derived.Test.YtlgbahgddpggfaaPPeopleKeepsx3
import Derived.Test.YtlgbahgddpggfaaPPeopleKeepsx4
import Derived.Test.YtlgbahgddpggfaaPPeopleKeepsx0
namespace Go.Proofs.Ytlgbahgddpggfaa.PPeopleKeeps
open Go.RowKit Go.Proofs.YtlgbahgddpggfaaW.PrintWords Go.Proofs.YtlgbahgddpggfaaW.PrintLast Go.Proofs.YtlgbahgddpggfaaW.PrintMore
attribute [local go_sem] max2_int min2_int max_two min_two max_three min_three max_four min_four   -- for this text's walks alone
set_option linter.unusedVariables false
set_option linter.unusedSimpArgs false

/-! ### chamberlainref10_Set: function 19 -/
def chamberlainref10_Set.l0 : Nat → List (S39) → List (S39) → Int → Int → Int → Int → Int → List Int → List (S66) → Bool → Option ((List (S39)) × Int)
  | 0, _, _, _, _, _, _, _, _, _, _ => none
  | k + 1, x0, x6, x7, x8, x233000, x233001, x233002, x233003, x233004, x233005 => if x8 < (x0.length : Int) then (if 0 ≤ x8 then (if ((rd_T39 x0 x8).f0) = x233000 then (if x6.length < 1954687338268 then (chamberlainref10_Set.l0 k x0 (x6 ++ [(⟨x233000, x233001, x233002, x233003, x233004, x233005⟩ : S39)]) 0 (wrap64 (x8 + 1)) x233000 x233001 x233002 x233003 x233004 x233005) else (none)) else (if x6.length < 1954687338268 then (chamberlainref10_Set.l0 k x0 (x6 ++ [(⟨(rd_T39 x0 x8).f0, (rd_T39 x0 x8).f1, (rd_T39 x0 x8).f2, (rd_T39 x0 x8).f3, (rd_T39 x0 x8).f4, (rd_T39 x0 x8).f5⟩ : S39)]) x7 (wrap64 (x8 + 1)) x233000 x233001 x233002 x233003 x233004 x233005) else (none))) else (none)) else (some (x6, x7))
def chamberlainref10_Set.f (k : Nat) (l0 : List (S39)) (a1_0 : Int) (a1_1 : Int) (a1_2 : Int) (l1_3 : List Int) (l1_4 : List (S66)) (a1_5 : Bool) : Option ((List (S39)) × Int) := chamberlainref10_Set.l0 k l0 ([] : List (S39)) 1 0 a1_0 a1_1 a1_2 l1_3 l1_4 a1_5
theorem chamberlainref10_Set.mono_l : ∀ k, (∀ y0 y1 y2 y3 y4 y5 y6 y7 y8 y9, LeO (chamberlainref10_Set.l0 k y0 y1 y2 y3 y4 y5 y6 y7 y8 y9) (chamberlainref10_Set.l0 (k + 1) y0 y1 y2 y3 y4 y5 y6 y7 y8 y9))
  | 0 => fun _ _ _ _ _ _ _ _ _ _ r h => by simp [chamberlainref10_Set.l0] at h
  | k + 1 => by
    have ih0 := chamberlainref10_Set.mono_l k
    · intro y0 y1 y2 y3 y4 y5 y6 y7 y8 y9
      unfold chamberlainref10_Set.l0
      repeat' first
      | (with_reducible exact ih0 _ _ _ _ _ _ _ _ _ _)
      | (with_reducible exact LeO.refl _)
      | (with_reducible exact LeO.none _)
      | (with_reducible refine LeO.ite ?_ ?_)
      | (with_reducible refine LeO.bind ?_ (fun _ => ?_))
      | exact ih0 _ _ _ _ _ _ _ _ _ _
      | exact LeO.none _
      | refine LeO.ite ?_ ?_
      | refine LeO.bind ?_ (fun _ => ?_)
theorem chamberlainref10_Set.mono : ∀ a0 a1 a2 a3 a4 a5 a6 k, LeO (chamberlainref10_Set.f k a0 a1 a2 a3 a4 a5 a6) (chamberlainref10_Set.f (k + 1) a0 a1 a2 a3 a4 a5 a6) := by
  intro a0 a1 a2 a3 a4 a5 a6 k
  have ih0 := chamberlainref10_Set.mono_l k
  unfold chamberlainref10_Set.f
  repeat' first
      | (with_reducible exact ih0 _ _ _ _ _ _ _ _ _ _)
      | (with_reducible exact LeO.refl _)
      | (with_reducible exact LeO.none _)
      | (with_reducible refine LeO.ite ?_ ?_)
      | (with_reducible refine LeO.bind ?_ (fun _ => ?_))
      | exact ih0 _ _ _ _ _ _ _ _ _ _
      | exact LeO.none _
      | refine LeO.ite ?_ ?_
      | refine LeO.bind ?_ (fun _ => ?_)
set_option maxHeartbeats 8000000 in
set_option maxRecDepth 100000 in
theorem chamberlainref10_Set.calls (k : Nat) (P0_ : Nat → Prop) (A0 : Option Addr) (c0 : Nat) (l0 : List (S39)) (a1_0 : Int) (a1_1 : Int) (a1_2 : Int) (P1_3_ : Nat → Prop) (A1_3 : Option Addr) (c1_3 : Nat) (l1_3 : List Int) (P1_4_ : Nat → Prop) (A1_4 : Option Addr) (c1_4 : Nat) (l1_4 : List (S66)) (a1_5 : Bool) (r1 : List (S39)) (r2 : Int) (w : World) (hs0 : Kd.V k39 39 w w.heap.size (fun k_ => P0_ k_) (.slice A0 l0.length c0) l0) (hs1_3 : Kd.V (Kd.int .u32) 36 w w.heap.size (fun k_ => P1_3_ k_) (.slice A1_3 l1_3.length c1_3) l1_3) (hs1_4 : Kd.V k66 66 w w.heap.size (fun k_ => P1_4_ k_) (.slice A1_4 l1_4.length c1_4) l1_4) (h : chamberlainref10_Set.f k l0 a1_0 a1_1 a1_2 l1_3 l1_4 a1_5 = some (r1, r2)) :
    Calls Try.prog 19 #[.slice A0 l0.length c0, .agg #[.int .u32 a1_0, .int .u32 a1_1, .int .u32 a1_2, .slice A1_3 l1_3.length c1_3, .slice A1_4 l1_4.length c1_4, .bool a1_5]] w fun e w' => ∃ v0_ : Value, e = .returned (.tuple #[v0_, .int .i64 r2]) ∧ Kd.N k39 39 w' w.heap.size (fun k_ => ((P0_ k_ ∨ P1_3_ k_ ∨ P1_4_ k_) ∨ w.heap.size ≤ k_)) v0_ r1 ∧ Below w.heap.size w w' := by
  have hu39 := Try.underlying39
  have HO0 := Aside0.mk (show Kd.V k39 39 w w.heap.size (fun k_ => ((P0_ k_ ∨ P1_3_ k_ ∨ P1_4_ k_) ∨ w.heap.size ≤ k_)) (.slice A0 l0.length c0) l0 from Kd.V_mono hs0 (fun k_ hk => .inl (.inl hk)))
  have HO1_3 := Aside0.mk (show Kd.V (Kd.int .u32) 36 w w.heap.size (fun k_ => ((P0_ k_ ∨ P1_3_ k_ ∨ P1_4_ k_) ∨ w.heap.size ≤ k_)) (.slice A1_3 l1_3.length c1_3) l1_3 from Kd.V_mono hs1_3 (fun k_ hk => .inl (.inr (.inl hk))))
  have HO1_4 := Aside0.mk (show Kd.V k66 66 w w.heap.size (fun k_ => ((P0_ k_ ∨ P1_3_ k_ ∨ P1_4_ k_) ∨ w.heap.size ≤ k_)) (.slice A1_4 l1_4.length c1_4) l1_4 from Kd.V_mono hs1_4 (fun k_ hk => .inl (.inr (.inr hk))))
  have HB := Aside0.mk (Below.refl w.heap.size w)
  have H : (chamberlainref10_Set.l0 k l0 ([] : List (S39)) 1 0 a1_0 a1_1 a1_2 l1_3 l1_4 a1_5) = some (r1, r2) := h
  clear h
  have H' := Aside0.mk H
  clear H
  go_enter Try.func19, Try.ntmps19
  go_wp2_with (first | ((with_reducible refine gate_dst (N := 3) rfl ?_); refine box_event ?hg (N := 3) ?hd (cs := #[.int .u32 a1_0, .int .u32 a1_1, .int .u32 a1_2, .slice A1_3 l1_3.length c1_3, .slice A1_4 l1_4.length c1_4, .bool a1_5]) (t := 39) ?hr ?_; (case hd => rfl); (case hg => rfl); (case hr => first | (go_simp; done) | (go_simp; rfl)); intro gb232 hg w3 hbox hb; have n0_ := Aside0.mk (Kd.V_below (Kd.V_elderB (by (with_reducible repeat (first | apply Kd.V_alloc | apply Kd.V_drewN | apply Kd.V_drew)); exact HO0.out) gb232 (Nat.le_of_eq hg.symm)) hb); have n1_ := Aside0.mk (Kd.V_below (Kd.V_elderB (by (with_reducible repeat (first | apply Kd.V_alloc | apply Kd.V_drewN | apply Kd.V_drew)); exact HO1_3.out) gb232 (Nat.le_of_eq hg.symm)) hb); have n2_ := Aside0.mk (Kd.V_below (Kd.V_elderB (by (with_reducible repeat (first | apply Kd.V_alloc | apply Kd.V_drewN | apply Kd.V_drew)); exact HO1_4.out) gb232 (Nat.le_of_eq hg.symm)) hb); have n3_ := Aside0.mk (below_step (by repeat (first | (with_reducible first | exact HB.out | apply below_alloc | apply pw_below_drewN | apply below_drew1) | exact HB.out)) hb); have n4_ := Aside0.mk (hbox); have n5_ := Aside0.mk ((by rw [hg]; exact (below_size (by repeat (first | (with_reducible first | exact HB.out | apply below_alloc | apply pw_below_drewN | apply below_drew1) | exact HB.out))) : w.heap.size ≤ gb232)); have n6_ := Aside0.mk ((by rw [hg]; exact (below_size (by repeat (first | (with_reducible first | exact HB.out | apply below_alloc | apply pw_below_drewN | apply below_drew1) | exact HB.out))) : w.heap.size ≤ gb232)); clear HO0; clear HO1_3; clear HO1_4; clear HB; have HO0 := n0_; have HO1_3 := n1_; have HO1_4 := n2_; have HB := n3_; have BK232 := n4_; have GW232 := n5_; have GE232 := n6_; clear n0_ n1_ n2_ n3_ n4_ n5_ n6_; clear hb hbox hg))
  repeat (go_quiet (first | ((with_reducible refine gate_dst (N := 3) rfl ?_); refine box_event ?hg (N := 3) ?hd (cs := #[.int .u32 a1_0, .int .u32 a1_1, .int .u32 a1_2, .slice A1_3 l1_3.length c1_3, .slice A1_4 l1_4.length c1_4, .bool a1_5]) (t := 39) ?hr ?_; (case hd => rfl); (case hg => rfl); (case hr => first | (go_simp; done) | (go_simp; rfl)); intro gb232 hg w3 hbox hb; have n0_ := Aside0.mk (Kd.V_below (Kd.V_elderB (by (with_reducible repeat (first | apply Kd.V_alloc | apply Kd.V_drewN | apply Kd.V_drew)); exact HO0.out) gb232 (Nat.le_of_eq hg.symm)) hb); have n1_ := Aside0.mk (Kd.V_below (Kd.V_elderB (by (with_reducible repeat (first | apply Kd.V_alloc | apply Kd.V_drewN | apply Kd.V_drew)); exact HO1_3.out) gb232 (Nat.le_of_eq hg.symm)) hb); have n2_ := Aside0.mk (Kd.V_below (Kd.V_elderB (by (with_reducible repeat (first | apply Kd.V_alloc | apply Kd.V_drewN | apply Kd.V_drew)); exact HO1_4.out) gb232 (Nat.le_of_eq hg.symm)) hb); have n3_ := Aside0.mk (below_step (by repeat (first | (with_reducible first | exact HB.out | apply below_alloc | apply pw_below_drewN | apply below_drew1) | exact HB.out)) hb); have n4_ := Aside0.mk (hbox); have n5_ := Aside0.mk ((by rw [hg]; exact (below_size (by repeat (first | (with_reducible first | exact HB.out | apply below_alloc | apply pw_below_drewN | apply below_drew1) | exact HB.out))) : w.heap.size ≤ gb232)); have n6_ := Aside0.mk ((by rw [hg]; exact (below_size (by repeat (first | (with_reducible first | exact HB.out | apply below_alloc | apply pw_below_drewN | apply below_drew1) | exact HB.out))) : w.heap.size ≤ gb232)); clear HO0; clear HO1_3; clear HO1_4; clear HB; have HO0 := n0_; have HO1_3 := n1_; have HO1_4 := n2_; have HB := n3_; have BK232 := n4_; have GW232 := n5_; have GE232 := n6_; clear n0_ n1_ n2_ n3_ n4_ n5_ n6_; clear hb hbox hg)); try go_wp2_with (first | ((with_reducible refine gate_dst (N := 3) rfl ?_); refine box_event ?hg (N := 3) ?hd (cs := #[.int .u32 a1_0, .int .u32 a1_1, .int .u32 a1_2, .slice A1_3 l1_3.length c1_3, .slice A1_4 l1_4.length c1_4, .bool a1_5]) (t := 39) ?hr ?_; (case hd => rfl); (case hg => rfl); (case hr => first | (go_simp; done) | (go_simp; rfl)); intro gb232 hg w3 hbox hb; have n0_ := Aside0.mk (Kd.V_below (Kd.V_elderB (by (with_reducible repeat (first | apply Kd.V_alloc | apply Kd.V_drewN | apply Kd.V_drew)); exact HO0.out) gb232 (Nat.le_of_eq hg.symm)) hb); have n1_ := Aside0.mk (Kd.V_below (Kd.V_elderB (by (with_reducible repeat (first | apply Kd.V_alloc | apply Kd.V_drewN | apply Kd.V_drew)); exact HO1_3.out) gb232 (Nat.le_of_eq hg.symm)) hb); have n2_ := Aside0.mk (Kd.V_below (Kd.V_elderB (by (with_reducible repeat (first | apply Kd.V_alloc | apply Kd.V_drewN | apply Kd.V_drew)); exact HO1_4.out) gb232 (Nat.le_of_eq hg.symm)) hb); have n3_ := Aside0.mk (below_step (by repeat (first | (with_reducible first | exact HB.out | apply below_alloc | apply pw_below_drewN | apply below_drew1) | exact HB.out)) hb); have n4_ := Aside0.mk (hbox); have n5_ := Aside0.mk ((by rw [hg]; exact (below_size (by repeat (first | (with_reducible first | exact HB.out | apply below_alloc | apply pw_below_drewN | apply below_drew1) | exact HB.out))) : w.heap.size ≤ gb232)); have n6_ := Aside0.mk ((by rw [hg]; exact (below_size (by repeat (first | (with_reducible first | exact HB.out | apply below_alloc | apply pw_below_drewN | apply below_drew1) | exact HB.out))) : w.heap.size ≤ gb232)); clear HO0; clear HO1_3; clear HO1_4; clear HB; have HO0 := n0_; have HO1_3 := n1_; have HO1_4 := n2_; have HB := n3_; have BK232 := n4_; have GW232 := n5_; have GE232 := n6_; clear n0_ n1_ n2_ n3_ n4_ n5_ n6_; clear hb hbox hg)))
  go_loopg [6, 7, 8] k (fun kq v6 v7 v8 w' => ∃ (x6_1 : List (S39)) (x7_1 : Int) (x8_1 : Int), v7 = .int .i64 x7_1 ∧ v8 = .int .i64 x8_1 ∧ Aside0 (chamberlainref10_Set.l0 kq l0 x6_1 x7_1 x8_1 a1_0 a1_1 a1_2 l1_3 l1_4 a1_5 = some (r1, r2)) ∧ Aside0 (kq ≤ k) ∧ Aside0 (Kd.V k39 39 w' w.heap.size (fun k_ => ((P0_ k_ ∨ P1_3_ k_ ∨ P1_4_ k_) ∨ w.heap.size ≤ k_) ∧ some k_ ≠ (v6 : Value).ownBlock ∧ k_ ≠ gb232) (.slice A0 l0.length c0) l0) ∧ Aside0 (Kd.N k39 39 w' w.heap.size (fun k_ => ((P0_ k_ ∨ P1_3_ k_ ∨ P1_4_ k_) ∨ w.heap.size ≤ k_) ∧ k_ ≠ gb232) v6 x6_1) ∧ Aside0 (Kd.V (Kd.int .u32) 36 w' w.heap.size (fun k_ => ((P0_ k_ ∨ P1_3_ k_ ∨ P1_4_ k_) ∨ w.heap.size ≤ k_) ∧ some k_ ≠ (v6 : Value).ownBlock ∧ k_ ≠ gb232) (.slice A1_3 l1_3.length c1_3) l1_3) ∧ Aside0 (Kd.V k66 66 w' w.heap.size (fun k_ => ((P0_ k_ ∨ P1_3_ k_ ∨ P1_4_ k_) ∨ w.heap.size ≤ k_) ∧ some k_ ≠ (v6 : Value).ownBlock ∧ k_ ≠ gb232) (.slice A1_4 l1_4.length c1_4) l1_4) ∧ Aside0 (w'.heap[gb232]? = some (.cells #[.int .u32 a1_0, .int .u32 a1_1, .int .u32 a1_2, (.slice A1_3 l1_3.length c1_3), (.slice A1_4 l1_4.length c1_4), .bool a1_5] 39 (0, 0))) ∧ Aside0 (Below w.heap.size w w'))
  case atStart => exact ⟨(([] : List (S39))), (1), (0), (by first | rfl | (simp; done) | (simp [*]; done)), (by first | rfl | (simp; done) | (simp [*]; done)), H', ⟨Nat.le_refl _⟩, ⟨by (with_reducible repeat (first | apply Kd.V_alloc | apply Kd.V_drewN | apply Kd.V_drew)); exact Kd.V_mono HO0.out (fun _ hk => ⟨hk.1, ⟨(by simp [Value.ownBlock]), hk.2⟩⟩)⟩, ⟨by first | exact Kd.S_nil _ _ _ _ _ | exact Kd.N_nil _ _ _ _ _ | exact Kd.V_nil _ _ _ _ _ | exact Kd.Q_nil _ _ _ _ _ | exact Kd.R_nil _ _ _ _ _⟩, ⟨by (with_reducible repeat (first | apply Kd.V_alloc | apply Kd.V_drewN | apply Kd.V_drew)); exact Kd.V_mono HO1_3.out (fun _ hk => ⟨hk.1, ⟨(by simp [Value.ownBlock]), hk.2⟩⟩)⟩, ⟨by (with_reducible repeat (first | apply Kd.V_alloc | apply Kd.V_drewN | apply Kd.V_drew)); exact Kd.V_mono HO1_4.out (fun _ hk => ⟨hk.1, ⟨(by simp [Value.ownBlock]), hk.2⟩⟩)⟩, ⟨by (with_reducible repeat (first | refine blk_drewN ?_ _ | refine blk_drew ?_ | refine blk_alloc ?_ _)); exact BK232.out⟩, ⟨by repeat (first | (with_reducible first | exact HB.out | apply below_alloc | apply pw_below_drewN | apply below_drew1 | refine below_set ?_ GE232.out) | exact HB.out)⟩⟩
  case round =>
    clear H'
    try clear c1
    try clear p2
    obtain ⟨x6_1, x7_1, x8_1, rfl, rfl, HA, HK1, HO_0, HO_6, HO_233003, HO_233004, BK232, HB⟩ := hrel
    cases gk with
    | zero => exact absurd HA.out (by simp [chamberlainref10_Set.l0])
    | succ k1 =>
      have H := HA.out
      clear HA
      simp only [chamberlainref10_Set.l0] at H
      by_cases c4 : x8_1 < (l0.length : Int)
      · rw [if_pos c4] at H
        have c4b0 : decide (x8_1 < (l0.length : Int)) = true := decide_eq_true c4
        clear c4
        by_cases c5 : 0 ≤ x8_1
        · rw [if_pos c5] at H
          have c5b0 : decide (0 ≤ x8_1) = true := decide_eq_true c5
          clear c5
          by_cases c6 : ((rd_T39 l0 x8_1).f0) = a1_0
          · rw [if_pos c6] at H
            have c6b0 : (((rd_T39 l0 x8_1).f0) == a1_0) = true := beq_iff_eq.mpr c6
            have c6b1 : (((rd_T39 l0 x8_1).f0) != a1_0) = false := bne_eq_false_iff_eq.mpr c6
            clear c6
            by_cases c7 : x6_1.length < 1954687338268
            · rw [if_pos c7] at H
              have LMc7 := Aside0.mk c7
              clear c7
              obtain ⟨y234, hy234⟩ : ∃ y_ : List (S39), y_ = (x6_1 ++ [(⟨a1_0, a1_1, a1_2, l1_3, l1_4, a1_5⟩ : S39)]) := ⟨_, rfl⟩
              replace H : (chamberlainref10_Set.l0 k1 l0 y234 0 (wrap64 (x8_1 + 1)) a1_0 a1_1 a1_2 l1_3 l1_4 a1_5) = some (r1, r2) := by first | (rw [hy234]; with_reducible exact H) | (have H2_ := (Option.bind_some _ _).symm.trans H; rw [hy234]; with_reducible exact H2_) | (have H2_ := (Option.bind_some _ _).symm.trans H; with_reducible exact H2_) | with_reducible exact H | (rw [hy234]; exact H) | exact H
              have Ny234 := Aside0.mk hy234
              clear hy234
              have H' := Aside0.mk H
              clear H
              have p233 : 0 ≤ (x8_1 : Int) := of_decide_eq_true (by first | (with_reducible assumption) | assumption)
              have q233 : x8_1 < (l0.length : Int) := of_decide_eq_true (by first | (with_reducible assumption) | assumption)
              obtain ⟨ad233, A233_3, c233_3, A233_4, c233_4, e233, hx233_0, hx233_1, hx233_2, hx233_3, hx233_4, hx233_5, hl233_3, hi233_3, hl233_4, hi233_4⟩ := at_T39 (Kd.V_reads' HO_0.out).2.2 x8_1 p233 q233
              cases e233
              obtain ⟨ce233, hce233, hMe233, hcc233⟩ := Kd.V_get HO_0.out z39 x8_1 p233 (by first | exact q233 | exact of_decide_eq_true (by first | (with_reducible assumption) | assumption) | (have e_ := (Kd.V_reads' HO_0.out).1; omega))
              obtain ⟨ua233_3, uc233_3, ua233_4, uc233_4, rfl, ul233_3, ge233_3, ul233_4, ge233_4⟩ := k39_openF hMe233
              have hv233_3 := hcc233 3 _ rfl
              rw [add_field _ _ 3 (by omega)] at hv233_3
              replace hv233_3 := Option.some.inj (hv233_3.symm.trans hx233_3)
              injection hv233_3 with hva_ hvn_ hvc_
              rw [hva_] at ge233_3
              rw [hvc_] at ul233_3
              have HL233_3 := Aside0.mk (show Kd.V (Kd.int .u32) 36 _ w.heap.size _ _ ((rd_T39 l0 x8_1).f3) from Kd.V_mk ul233_3 ge233_3)
              clear hva_ hvn_ hvc_ ge233_3 ul233_3
              have hv233_4 := hcc233 4 _ rfl
              rw [add_field _ _ 4 (by omega)] at hv233_4
              replace hv233_4 := Option.some.inj (hv233_4.symm.trans hx233_4)
              injection hv233_4 with hva_ hvn_ hvc_
              rw [hva_] at ge233_4
              rw [hvc_] at ul233_4
              have HL233_4 := Aside0.mk (show Kd.V k66 66 _ w.heap.size _ _ ((rd_T39 l0 x8_1).f4) from Kd.V_mk ul233_4 ge233_4)
              clear hva_ hvn_ hvc_ ge233_4 ul233_4
              clear hcc233 hce233
              have HR233_3 := Aside0.mk hi233_3
              have HC233_3 := Aside0.mk hl233_3
              clear hi233_3 hl233_3
              have HR233_4 := Aside0.mk hi233_4
              have HC233_4 := Aside0.mk hl233_4
              clear hi233_4 hl233_4
              replace p233 := eq_true p233
              replace q233 := eq_true q233
              have hcz8_0 : wr.cell? ⟨gb232, 0, none⟩ = some (.int .u32 a1_0) := (blk_cell BK232.out 0).trans rfl
              have hcz8_1 : wr.cell? ⟨gb232, 1, none⟩ = some (.int .u32 a1_1) := (blk_cell BK232.out 1).trans rfl
              have hcz8_2 : wr.cell? ⟨gb232, 2, none⟩ = some (.int .u32 a1_2) := (blk_cell BK232.out 2).trans rfl
              have hcz8_3 : wr.cell? ⟨gb232, 3, none⟩ = some (.slice A1_3 l1_3.length c1_3) := (blk_cell BK232.out 3).trans rfl
              have hcz8_4 : wr.cell? ⟨gb232, 4, none⟩ = some (.slice A1_4 l1_4.length c1_4) := (blk_cell BK232.out 4).trans rfl
              have hcz8_5 : wr.cell? ⟨gb232, 5, none⟩ = some (.bool a1_5) := (blk_cell BK232.out 5).trans rfl
              have hfz8_0 := blk_frozen BK232.out 0
              have hfz8_1 := blk_frozen BK232.out 1
              have hfz8_2 := blk_frozen BK232.out 2
              have hfz8_3 := blk_frozen BK232.out 3
              have hfz8_4 := blk_frozen BK232.out 4
              have hfz8_5 := blk_frozen BK232.out 5
              go_wp2_with (first | ((with_reducible refine gate_builtin (b := .append) (xs := #[.tmp 23, .tmp 25]) rfl ?_); at_builtin; refine Kd.N_append k39 (w0 := w) w.heap.size rfl (.tmp 23) (.tmp 25) 25 39 (.agg #[(.int .u32 0), (.int .u32 0), (.int .u32 0), (.slice none 0 0), (.slice none 0 0), (.bool false)]) 72 rfl Try.underlying25 info39 rfl (by decide) (by omega) u6 x6_1 (⟨a1_0, a1_1, a1_2, l1_3, l1_4, a1_5⟩ : S39) [.int .u32 a1_0, .int .u32 a1_1, .int .u32 a1_2, .slice A1_3 l1_3.length c1_3, .slice A1_4 l1_4.length c1_4, .bool a1_5] (fun k_ => ((P0_ k_ ∨ P1_3_ k_ ∨ P1_4_ k_) ∨ w.heap.size ≤ k_) ∧ k_ ≠ gb232) (fun k_ => ((fun k_ => ((P0_ k_ ∨ P1_3_ k_ ∨ P1_4_ k_) ∨ w.heap.size ≤ k_) ∧ k_ ≠ gb232)) k_ ∧ some k_ ≠ (u6 : Value).ownBlock) rfl rfl ?aP (fun _ hk => hk) ?aF ?aO ?aB ?aS ?aL ?_; (case aP => exact (k39_mkF _ _ (⟨a1_0, a1_1, a1_2, l1_3, l1_4, a1_5⟩ : S39) (Kd.V_reads' (Kd.V_mono (ok' := (fun k_ => ((fun k_ => ((P0_ k_ ∨ P1_3_ k_ ∨ P1_4_ k_) ∨ w.heap.size ≤ k_) ∧ k_ ≠ gb232)) k_ ∧ some k_ ≠ (u6 : Value).ownBlock)) (HO_233003.out) (fun k_ hk => ⟨⟨hk.1, hk.2.2⟩, hk.2.1⟩))).2.1 (Kd.V_F (Kd.V_mono (ok' := (fun k_ => ((fun k_ => ((P0_ k_ ∨ P1_3_ k_ ∨ P1_4_ k_) ∨ w.heap.size ≤ k_) ∧ k_ ≠ gb232)) k_ ∧ some k_ ≠ (u6 : Value).ownBlock)) (HO_233003.out) (fun k_ hk => ⟨⟨hk.1, hk.2.2⟩, hk.2.1⟩))) (Kd.V_reads' (Kd.V_mono (ok' := (fun k_ => ((fun k_ => ((P0_ k_ ∨ P1_3_ k_ ∨ P1_4_ k_) ∨ w.heap.size ≤ k_) ∧ k_ ≠ gb232)) k_ ∧ some k_ ≠ (u6 : Value).ownBlock)) (HO_233004.out) (fun k_ hk => ⟨⟨hk.1, hk.2.2⟩, hk.2.1⟩))).2.1 (Kd.V_F (Kd.V_mono (ok' := (fun k_ => ((fun k_ => ((P0_ k_ ∨ P1_3_ k_ ∨ P1_4_ k_) ∨ w.heap.size ≤ k_) ∧ k_ ≠ gb232)) k_ ∧ some k_ ≠ (u6 : Value).ownBlock)) (HO_233004.out) (fun k_ hk => ⟨⟨hk.1, hk.2.2⟩, hk.2.1⟩))))); (case aB => exact (by repeat (first | (with_reducible first | exact HB.out | apply below_alloc | apply pw_below_drewN | apply below_drew1 | refine below_set ?_ GE232.out) | exact HB.out))); (case aF => exact (fun k_ hk => ⟨(.inr (Nat.le_trans (below_size (by repeat (first | (with_reducible first | exact HB.out | apply below_alloc | apply pw_below_drewN | apply below_drew1 | refine below_set ?_ GE232.out) | exact HB.out))) hk)), Kd.freshB (g := gb232) (o := .cells #[.int .u32 a1_0, .int .u32 a1_1, .int .u32 a1_2, .slice A1_3 l1_3.length c1_3, .slice A1_4 l1_4.length c1_4, .bool a1_5] 39 (0, 0)) (by (with_reducible repeat (first | refine blk_drewN ?_ _ | refine blk_drew ?_ | refine blk_alloc ?_ _)); exact BK232.out) k_ hk⟩)); (case aO => exact (by (with_reducible repeat (first | apply Kd.N_alloc | apply Kd.N_drewN | apply Kd.N_drew)); exact HO_6.out)); (case aS => exact (below_size (by repeat (first | (with_reducible first | exact HB.out | apply below_alloc | apply pw_below_drewN | apply below_drew1 | refine below_set ?_ GE232.out) | exact HB.out)))); (case aL => have := LMc7.out; omega); intro v235 w9 ho hb hg hat; rw [← Ny234.out] at ho; have n0_ := Aside0.mk (Kd.V_afterv (ok := (fun k_ => ((P0_ k_ ∨ P1_3_ k_ ∨ P1_4_ k_) ∨ w.heap.size ≤ k_) ∧ k_ ≠ gb232)) (by (with_reducible repeat (first | apply Kd.V_alloc | apply Kd.V_drewN | apply Kd.V_drew)); exact Kd.V_mono HO_0.out (fun _ hk => ⟨⟨hk.1, hk.2.2⟩, hk.2.1⟩)) hg hat); have n1_ := Aside0.mk (Kd.V_afterv (ok := (fun k_ => ((P0_ k_ ∨ P1_3_ k_ ∨ P1_4_ k_) ∨ w.heap.size ≤ k_) ∧ k_ ≠ gb232)) (by (with_reducible repeat (first | apply Kd.V_alloc | apply Kd.V_drewN | apply Kd.V_drew)); exact Kd.V_mono HO_233003.out (fun _ hk => ⟨⟨hk.1, hk.2.2⟩, hk.2.1⟩)) hg hat); have n2_ := Aside0.mk (Kd.V_afterv (ok := (fun k_ => ((P0_ k_ ∨ P1_3_ k_ ∨ P1_4_ k_) ∨ w.heap.size ≤ k_) ∧ k_ ≠ gb232)) (by (with_reducible repeat (first | apply Kd.V_alloc | apply Kd.V_drewN | apply Kd.V_drew)); exact Kd.V_mono HO_233004.out (fun _ hk => ⟨⟨hk.1, hk.2.2⟩, hk.2.1⟩)) hg hat); have n3_ := Aside0.mk (blk_grown (g := gb232) (o := .cells #[.int .u32 a1_0, .int .u32 a1_1, .int .u32 a1_2, .slice A1_3 l1_3.length c1_3, .slice A1_4 l1_4.length c1_4, .bool a1_5] 39 (0, 0)) (by (with_reducible repeat (first | refine blk_drewN ?_ _ | refine blk_drew ?_ | refine blk_alloc ?_ _)); exact BK232.out) hg (Kd.N_away HO_6.out (fun _ hk => hk.2))); have n4_ := Aside0.mk (Kd.V_afterv (ok := (fun k_ => ((P0_ k_ ∨ P1_3_ k_ ∨ P1_4_ k_) ∨ w.heap.size ≤ k_) ∧ k_ ≠ gb232)) (by (with_reducible repeat (first | apply Kd.V_alloc | apply Kd.V_drewN | apply Kd.V_drew)); exact Kd.V_mono HL233_3.out (fun _ hk => ⟨⟨hk.1, hk.2.2⟩, hk.2.1⟩)) hg hat); have n5_ := Aside0.mk (Kd.V_afterv (ok := (fun k_ => ((P0_ k_ ∨ P1_3_ k_ ∨ P1_4_ k_) ∨ w.heap.size ≤ k_) ∧ k_ ≠ gb232)) (by (with_reducible repeat (first | apply Kd.V_alloc | apply Kd.V_drewN | apply Kd.V_drew)); exact Kd.V_mono HL233_4.out (fun _ hk => ⟨⟨hk.1, hk.2.2⟩, hk.2.1⟩)) hg hat); have n6_ := Aside0.mk (hb); have n7_ := Aside0.mk (ho); clear HO_0; clear HO_233003; clear HO_233004; clear BK232; clear HL233_3; clear HL233_4; clear HB; clear HO_6; have HO_0 := n0_; have HO_233003 := n1_; have HO_233004 := n2_; have BK232 := n3_; have HL233_3 := n4_; have HL233_4 := n5_; have HB := n6_; have HO236 := n7_; clear n0_ n1_ n2_ n3_ n4_ n5_ n6_ n7_; clear ho hb hg hat))
              repeat (go_quiet (first | ((with_reducible refine gate_builtin (b := .append) (xs := #[.tmp 23, .tmp 25]) rfl ?_); at_builtin; refine Kd.N_append k39 (w0 := w) w.heap.size rfl (.tmp 23) (.tmp 25) 25 39 (.agg #[(.int .u32 0), (.int .u32 0), (.int .u32 0), (.slice none 0 0), (.slice none 0 0), (.bool false)]) 72 rfl Try.underlying25 info39 rfl (by decide) (by omega) u6 x6_1 (⟨a1_0, a1_1, a1_2, l1_3, l1_4, a1_5⟩ : S39) [.int .u32 a1_0, .int .u32 a1_1, .int .u32 a1_2, .slice A1_3 l1_3.length c1_3, .slice A1_4 l1_4.length c1_4, .bool a1_5] (fun k_ => ((P0_ k_ ∨ P1_3_ k_ ∨ P1_4_ k_) ∨ w.heap.size ≤ k_) ∧ k_ ≠ gb232) (fun k_ => ((fun k_ => ((P0_ k_ ∨ P1_3_ k_ ∨ P1_4_ k_) ∨ w.heap.size ≤ k_) ∧ k_ ≠ gb232)) k_ ∧ some k_ ≠ (u6 : Value).ownBlock) rfl rfl ?aP (fun _ hk => hk) ?aF ?aO ?aB ?aS ?aL ?_; (case aP => exact (k39_mkF _ _ (⟨a1_0, a1_1, a1_2, l1_3, l1_4, a1_5⟩ : S39) (Kd.V_reads' (Kd.V_mono (ok' := (fun k_ => ((fun k_ => ((P0_ k_ ∨ P1_3_ k_ ∨ P1_4_ k_) ∨ w.heap.size ≤ k_) ∧ k_ ≠ gb232)) k_ ∧ some k_ ≠ (u6 : Value).ownBlock)) (HO_233003.out) (fun k_ hk => ⟨⟨hk.1, hk.2.2⟩, hk.2.1⟩))).2.1 (Kd.V_F (Kd.V_mono (ok' := (fun k_ => ((fun k_ => ((P0_ k_ ∨ P1_3_ k_ ∨ P1_4_ k_) ∨ w.heap.size ≤ k_) ∧ k_ ≠ gb232)) k_ ∧ some k_ ≠ (u6 : Value).ownBlock)) (HO_233003.out) (fun k_ hk => ⟨⟨hk.1, hk.2.2⟩, hk.2.1⟩))) (Kd.V_reads' (Kd.V_mono (ok' := (fun k_ => ((fun k_ => ((P0_ k_ ∨ P1_3_ k_ ∨ P1_4_ k_) ∨ w.heap.size ≤ k_) ∧ k_ ≠ gb232)) k_ ∧ some k_ ≠ (u6 : Value).ownBlock)) (HO_233004.out) (fun k_ hk => ⟨⟨hk.1, hk.2.2⟩, hk.2.1⟩))).2.1 (Kd.V_F (Kd.V_mono (ok' := (fun k_ => ((fun k_ => ((P0_ k_ ∨ P1_3_ k_ ∨ P1_4_ k_) ∨ w.heap.size ≤ k_) ∧ k_ ≠ gb232)) k_ ∧ some k_ ≠ (u6 : Value).ownBlock)) (HO_233004.out) (fun k_ hk => ⟨⟨hk.1, hk.2.2⟩, hk.2.1⟩))))); (case aB => exact (by repeat (first | (with_reducible first | exact HB.out | apply below_alloc | apply pw_below_drewN | apply below_drew1 | refine below_set ?_ GE232.out) | exact HB.out))); (case aF => exact (fun k_ hk => ⟨(.inr (Nat.le_trans (below_size (by repeat (first | (with_reducible first | exact HB.out | apply below_alloc | apply pw_below_drewN | apply below_drew1 | refine below_set ?_ GE232.out) | exact HB.out))) hk)), Kd.freshB (g := gb232) (o := .cells #[.int .u32 a1_0, .int .u32 a1_1, .int .u32 a1_2, .slice A1_3 l1_3.length c1_3, .slice A1_4 l1_4.length c1_4, .bool a1_5] 39 (0, 0)) (by (with_reducible repeat (first | refine blk_drewN ?_ _ | refine blk_drew ?_ | refine blk_alloc ?_ _)); exact BK232.out) k_ hk⟩)); (case aO => exact (by (with_reducible repeat (first | apply Kd.N_alloc | apply Kd.N_drewN | apply Kd.N_drew)); exact HO_6.out)); (case aS => exact (below_size (by repeat (first | (with_reducible first | exact HB.out | apply below_alloc | apply pw_below_drewN | apply below_drew1 | refine below_set ?_ GE232.out) | exact HB.out)))); (case aL => have := LMc7.out; omega); intro v235 w9 ho hb hg hat; rw [← Ny234.out] at ho; have n0_ := Aside0.mk (Kd.V_afterv (ok := (fun k_ => ((P0_ k_ ∨ P1_3_ k_ ∨ P1_4_ k_) ∨ w.heap.size ≤ k_) ∧ k_ ≠ gb232)) (by (with_reducible repeat (first | apply Kd.V_alloc | apply Kd.V_drewN | apply Kd.V_drew)); exact Kd.V_mono HO_0.out (fun _ hk => ⟨⟨hk.1, hk.2.2⟩, hk.2.1⟩)) hg hat); have n1_ := Aside0.mk (Kd.V_afterv (ok := (fun k_ => ((P0_ k_ ∨ P1_3_ k_ ∨ P1_4_ k_) ∨ w.heap.size ≤ k_) ∧ k_ ≠ gb232)) (by (with_reducible repeat (first | apply Kd.V_alloc | apply Kd.V_drewN | apply Kd.V_drew)); exact Kd.V_mono HO_233003.out (fun _ hk => ⟨⟨hk.1, hk.2.2⟩, hk.2.1⟩)) hg hat); have n2_ := Aside0.mk (Kd.V_afterv (ok := (fun k_ => ((P0_ k_ ∨ P1_3_ k_ ∨ P1_4_ k_) ∨ w.heap.size ≤ k_) ∧ k_ ≠ gb232)) (by (with_reducible repeat (first | apply Kd.V_alloc | apply Kd.V_drewN | apply Kd.V_drew)); exact Kd.V_mono HO_233004.out (fun _ hk => ⟨⟨hk.1, hk.2.2⟩, hk.2.1⟩)) hg hat); have n3_ := Aside0.mk (blk_grown (g := gb232) (o := .cells #[.int .u32 a1_0, .int .u32 a1_1, .int .u32 a1_2, .slice A1_3 l1_3.length c1_3, .slice A1_4 l1_4.length c1_4, .bool a1_5] 39 (0, 0)) (by (with_reducible repeat (first | refine blk_drewN ?_ _ | refine blk_drew ?_ | refine blk_alloc ?_ _)); exact BK232.out) hg (Kd.N_away HO_6.out (fun _ hk => hk.2))); have n4_ := Aside0.mk (Kd.V_afterv (ok := (fun k_ => ((P0_ k_ ∨ P1_3_ k_ ∨ P1_4_ k_) ∨ w.heap.size ≤ k_) ∧ k_ ≠ gb232)) (by (with_reducible repeat (first | apply Kd.V_alloc | apply Kd.V_drewN | apply Kd.V_drew)); exact Kd.V_mono HL233_3.out (fun _ hk => ⟨⟨hk.1, hk.2.2⟩, hk.2.1⟩)) hg hat); have n5_ := Aside0.mk (Kd.V_afterv (ok := (fun k_ => ((P0_ k_ ∨ P1_3_ k_ ∨ P1_4_ k_) ∨ w.heap.size ≤ k_) ∧ k_ ≠ gb232)) (by (with_reducible repeat (first | apply Kd.V_alloc | apply Kd.V_drewN | apply Kd.V_drew)); exact Kd.V_mono HL233_4.out (fun _ hk => ⟨⟨hk.1, hk.2.2⟩, hk.2.1⟩)) hg hat); have n6_ := Aside0.mk (hb); have n7_ := Aside0.mk (ho); clear HO_0; clear HO_233003; clear HO_233004; clear BK232; clear HL233_3; clear HL233_4; clear HB; clear HO_6; have HO_0 := n0_; have HO_233003 := n1_; have HO_233004 := n2_; have BK232 := n3_; have HL233_3 := n4_; have HL233_4 := n5_; have HB := n6_; have HO236 := n7_; clear n0_ n1_ n2_ n3_ n4_ n5_ n6_ n7_; clear ho hb hg hat)); try go_wp2_with (first | ((with_reducible refine gate_builtin (b := .append) (xs := #[.tmp 23, .tmp 25]) rfl ?_); at_builtin; refine Kd.N_append k39 (w0 := w) w.heap.size rfl (.tmp 23) (.tmp 25) 25 39 (.agg #[(.int .u32 0), (.int .u32 0), (.int .u32 0), (.slice none 0 0), (.slice none 0 0), (.bool false)]) 72 rfl Try.underlying25 info39 rfl (by decide) (by omega) u6 x6_1 (⟨a1_0, a1_1, a1_2, l1_3, l1_4, a1_5⟩ : S39) [.int .u32 a1_0, .int .u32 a1_1, .int .u32 a1_2, .slice A1_3 l1_3.length c1_3, .slice A1_4 l1_4.length c1_4, .bool a1_5] (fun k_ => ((P0_ k_ ∨ P1_3_ k_ ∨ P1_4_ k_) ∨ w.heap.size ≤ k_) ∧ k_ ≠ gb232) (fun k_ => ((fun k_ => ((P0_ k_ ∨ P1_3_ k_ ∨ P1_4_ k_) ∨ w.heap.size ≤ k_) ∧ k_ ≠ gb232)) k_ ∧ some k_ ≠ (u6 : Value).ownBlock) rfl rfl ?aP (fun _ hk => hk) ?aF ?aO ?aB ?aS ?aL ?_; (case aP => exact (k39_mkF _ _ (⟨a1_0, a1_1, a1_2, l1_3, l1_4, a1_5⟩ : S39) (Kd.V_reads' (Kd.V_mono (ok' := (fun k_ => ((fun k_ => ((P0_ k_ ∨ P1_3_ k_ ∨ P1_4_ k_) ∨ w.heap.size ≤ k_) ∧ k_ ≠ gb232)) k_ ∧ some k_ ≠ (u6 : Value).ownBlock)) (HO_233003.out) (fun k_ hk => ⟨⟨hk.1, hk.2.2⟩, hk.2.1⟩))).2.1 (Kd.V_F (Kd.V_mono (ok' := (fun k_ => ((fun k_ => ((P0_ k_ ∨ P1_3_ k_ ∨ P1_4_ k_) ∨ w.heap.size ≤ k_) ∧ k_ ≠ gb232)) k_ ∧ some k_ ≠ (u6 : Value).ownBlock)) (HO_233003.out) (fun k_ hk => ⟨⟨hk.1, hk.2.2⟩, hk.2.1⟩))) (Kd.V_reads' (Kd.V_mono (ok' := (fun k_ => ((fun k_ => ((P0_ k_ ∨ P1_3_ k_ ∨ P1_4_ k_) ∨ w.heap.size ≤ k_) ∧ k_ ≠ gb232)) k_ ∧ some k_ ≠ (u6 : Value).ownBlock)) (HO_233004.out) (fun k_ hk => ⟨⟨hk.1, hk.2.2⟩, hk.2.1⟩))).2.1 (Kd.V_F (Kd.V_mono (ok' := (fun k_ => ((fun k_ => ((P0_ k_ ∨ P1_3_ k_ ∨ P1_4_ k_) ∨ w.heap.size ≤ k_) ∧ k_ ≠ gb232)) k_ ∧ some k_ ≠ (u6 : Value).ownBlock)) (HO_233004.out) (fun k_ hk => ⟨⟨hk.1, hk.2.2⟩, hk.2.1⟩))))); (case aB => exact (by repeat (first | (with_reducible first | exact HB.out | apply below_alloc | apply pw_below_drewN | apply below_drew1 | refine below_set ?_ GE232.out) | exact HB.out))); (case aF => exact (fun k_ hk => ⟨(.inr (Nat.le_trans (below_size (by repeat (first | (with_reducible first | exact HB.out | apply below_alloc | apply pw_below_drewN | apply below_drew1 | refine below_set ?_ GE232.out) | exact HB.out))) hk)), Kd.freshB (g := gb232) (o := .cells #[.int .u32 a1_0, .int .u32 a1_1, .int .u32 a1_2, .slice A1_3 l1_3.length c1_3, .slice A1_4 l1_4.length c1_4, .bool a1_5] 39 (0, 0)) (by (with_reducible repeat (first | refine blk_drewN ?_ _ | refine blk_drew ?_ | refine blk_alloc ?_ _)); exact BK232.out) k_ hk⟩)); (case aO => exact (by (with_reducible repeat (first | apply Kd.N_alloc | apply Kd.N_drewN | apply Kd.N_drew)); exact HO_6.out)); (case aS => exact (below_size (by repeat (first | (with_reducible first | exact HB.out | apply below_alloc | apply pw_below_drewN | apply below_drew1 | refine below_set ?_ GE232.out) | exact HB.out)))); (case aL => have := LMc7.out; omega); intro v235 w9 ho hb hg hat; rw [← Ny234.out] at ho; have n0_ := Aside0.mk (Kd.V_afterv (ok := (fun k_ => ((P0_ k_ ∨ P1_3_ k_ ∨ P1_4_ k_) ∨ w.heap.size ≤ k_) ∧ k_ ≠ gb232)) (by (with_reducible repeat (first | apply Kd.V_alloc | apply Kd.V_drewN | apply Kd.V_drew)); exact Kd.V_mono HO_0.out (fun _ hk => ⟨⟨hk.1, hk.2.2⟩, hk.2.1⟩)) hg hat); have n1_ := Aside0.mk (Kd.V_afterv (ok := (fun k_ => ((P0_ k_ ∨ P1_3_ k_ ∨ P1_4_ k_) ∨ w.heap.size ≤ k_) ∧ k_ ≠ gb232)) (by (with_reducible repeat (first | apply Kd.V_alloc | apply Kd.V_drewN | apply Kd.V_drew)); exact Kd.V_mono HO_233003.out (fun _ hk => ⟨⟨hk.1, hk.2.2⟩, hk.2.1⟩)) hg hat); have n2_ := Aside0.mk (Kd.V_afterv (ok := (fun k_ => ((P0_ k_ ∨ P1_3_ k_ ∨ P1_4_ k_) ∨ w.heap.size ≤ k_) ∧ k_ ≠ gb232)) (by (with_reducible repeat (first | apply Kd.V_alloc | apply Kd.V_drewN | apply Kd.V_drew)); exact Kd.V_mono HO_233004.out (fun _ hk => ⟨⟨hk.1, hk.2.2⟩, hk.2.1⟩)) hg hat); have n3_ := Aside0.mk (blk_grown (g := gb232) (o := .cells #[.int .u32 a1_0, .int .u32 a1_1, .int .u32 a1_2, .slice A1_3 l1_3.length c1_3, .slice A1_4 l1_4.length c1_4, .bool a1_5] 39 (0, 0)) (by (with_reducible repeat (first | refine blk_drewN ?_ _ | refine blk_drew ?_ | refine blk_alloc ?_ _)); exact BK232.out) hg (Kd.N_away HO_6.out (fun _ hk => hk.2))); have n4_ := Aside0.mk (Kd.V_afterv (ok := (fun k_ => ((P0_ k_ ∨ P1_3_ k_ ∨ P1_4_ k_) ∨ w.heap.size ≤ k_) ∧ k_ ≠ gb232)) (by (with_reducible repeat (first | apply Kd.V_alloc | apply Kd.V_drewN | apply Kd.V_drew)); exact Kd.V_mono HL233_3.out (fun _ hk => ⟨⟨hk.1, hk.2.2⟩, hk.2.1⟩)) hg hat); have n5_ := Aside0.mk (Kd.V_afterv (ok := (fun k_ => ((P0_ k_ ∨ P1_3_ k_ ∨ P1_4_ k_) ∨ w.heap.size ≤ k_) ∧ k_ ≠ gb232)) (by (with_reducible repeat (first | apply Kd.V_alloc | apply Kd.V_drewN | apply Kd.V_drew)); exact Kd.V_mono HL233_4.out (fun _ hk => ⟨⟨hk.1, hk.2.2⟩, hk.2.1⟩)) hg hat); have n6_ := Aside0.mk (hb); have n7_ := Aside0.mk (ho); clear HO_0; clear HO_233003; clear HO_233004; clear BK232; clear HL233_3; clear HL233_4; clear HB; clear HO_6; have HO_0 := n0_; have HO_233003 := n1_; have HO_233004 := n2_; have BK232 := n3_; have HL233_3 := n4_; have HL233_4 := n5_; have HB := n6_; have HO236 := n7_; clear n0_ n1_ n2_ n3_ n4_ n5_ n6_ n7_; clear ho hb hg hat)))
              go_roundg k1
              case measure => have := HK1.out; omega
              case rel => exact ⟨(y234), (0), (wrap64 (x8_1 + 1)), (by first | rfl | (simp; done) | (simp [*]; done)), (by first | rfl | (simp; done) | (simp [*]; done)), H', ⟨by have := HK1.out; omega⟩, ⟨by (with_reducible repeat (first | apply Kd.V_alloc | apply Kd.V_drewN | apply Kd.V_drew)); exact Kd.V_mono HO_0.out (fun _ hk => ⟨hk.1.1, ⟨hk.2, hk.1.2⟩⟩)⟩, ⟨by (with_reducible repeat (first | apply Kd.N_alloc | apply Kd.N_drewN | apply Kd.N_drew)); exact HO236.out⟩, ⟨by (with_reducible repeat (first | apply Kd.V_alloc | apply Kd.V_drewN | apply Kd.V_drew)); exact Kd.V_mono HO_233003.out (fun _ hk => ⟨hk.1.1, ⟨hk.2, hk.1.2⟩⟩)⟩, ⟨by (with_reducible repeat (first | apply Kd.V_alloc | apply Kd.V_drewN | apply Kd.V_drew)); exact Kd.V_mono HO_233004.out (fun _ hk => ⟨hk.1.1, ⟨hk.2, hk.1.2⟩⟩)⟩, ⟨by (with_reducible repeat (first | refine blk_drewN ?_ _ | refine blk_drew ?_ | refine blk_alloc ?_ _)); exact BK232.out⟩, ⟨by repeat (first | (with_reducible first | exact HB.out | apply below_alloc | apply pw_below_drewN | apply below_drew1 | refine below_set ?_ GE232.out) | exact HB.out)⟩⟩
            · rw [if_neg c7] at H
              exact absurd H (by simp)
          · rw [if_neg c6] at H
            have c6b0 : (((rd_T39 l0 x8_1).f0) == a1_0) = false := beq_eq_false_iff_ne.mpr c6
            have c6b1 : (((rd_T39 l0 x8_1).f0) != a1_0) = true := bne_iff_ne.mpr c6
            by_cases c10 : x6_1.length < 1954687338268
            · rw [if_pos c10] at H
              have LMc10 := Aside0.mk c10
              clear c10
              obtain ⟨y238, hy238⟩ : ∃ y_ : List (S39), y_ = (x6_1 ++ [(⟨(rd_T39 l0 x8_1).f0, (rd_T39 l0 x8_1).f1, (rd_T39 l0 x8_1).f2, (rd_T39 l0 x8_1).f3, (rd_T39 l0 x8_1).f4, (rd_T39 l0 x8_1).f5⟩ : S39)]) := ⟨_, rfl⟩
              replace H : (chamberlainref10_Set.l0 k1 l0 y238 x7_1 (wrap64 (x8_1 + 1)) a1_0 a1_1 a1_2 l1_3 l1_4 a1_5) = some (r1, r2) := by first | (rw [hy238]; with_reducible exact H) | (have H2_ := (Option.bind_some _ _).symm.trans H; rw [hy238]; with_reducible exact H2_) | (have H2_ := (Option.bind_some _ _).symm.trans H; with_reducible exact H2_) | with_reducible exact H | (rw [hy238]; exact H) | exact H
              have Ny238 := Aside0.mk hy238
              clear hy238
              have H' := Aside0.mk H
              clear H
              have p233 : 0 ≤ (x8_1 : Int) := of_decide_eq_true (by first | (with_reducible assumption) | assumption)
              have q233 : x8_1 < (l0.length : Int) := of_decide_eq_true (by first | (with_reducible assumption) | assumption)
              obtain ⟨ad233, A233_3, c233_3, A233_4, c233_4, e233, hx233_0, hx233_1, hx233_2, hx233_3, hx233_4, hx233_5, hl233_3, hi233_3, hl233_4, hi233_4⟩ := at_T39 (Kd.V_reads' HO_0.out).2.2 x8_1 p233 q233
              cases e233
              obtain ⟨ce233, hce233, hMe233, hcc233⟩ := Kd.V_get HO_0.out z39 x8_1 p233 (by first | exact q233 | exact of_decide_eq_true (by first | (with_reducible assumption) | assumption) | (have e_ := (Kd.V_reads' HO_0.out).1; omega))
              obtain ⟨ua233_3, uc233_3, ua233_4, uc233_4, rfl, ul233_3, ge233_3, ul233_4, ge233_4⟩ := k39_openF hMe233
              have hv233_3 := hcc233 3 _ rfl
              rw [add_field _ _ 3 (by omega)] at hv233_3
              replace hv233_3 := Option.some.inj (hv233_3.symm.trans hx233_3)
              injection hv233_3 with hva_ hvn_ hvc_
              rw [hva_] at ge233_3
              rw [hvc_] at ul233_3
              have HL233_3 := Aside0.mk (show Kd.V (Kd.int .u32) 36 _ w.heap.size _ _ ((rd_T39 l0 x8_1).f3) from Kd.V_mk ul233_3 ge233_3)
              clear hva_ hvn_ hvc_ ge233_3 ul233_3
              have hv233_4 := hcc233 4 _ rfl
              rw [add_field _ _ 4 (by omega)] at hv233_4
              replace hv233_4 := Option.some.inj (hv233_4.symm.trans hx233_4)
              injection hv233_4 with hva_ hvn_ hvc_
              rw [hva_] at ge233_4
              rw [hvc_] at ul233_4
              have HL233_4 := Aside0.mk (show Kd.V k66 66 _ w.heap.size _ _ ((rd_T39 l0 x8_1).f4) from Kd.V_mk ul233_4 ge233_4)
              clear hva_ hvn_ hvc_ ge233_4 ul233_4
              clear hcc233 hce233
              have HR233_3 := Aside0.mk hi233_3
              have HC233_3 := Aside0.mk hl233_3
              clear hi233_3 hl233_3
              have HR233_4 := Aside0.mk hi233_4
              have HC233_4 := Aside0.mk hl233_4
              clear hi233_4 hl233_4
              replace p233 := eq_true p233
              replace q233 := eq_true q233
              have hcz11_0 : wr.cell? ⟨gb232, 0, none⟩ = some (.int .u32 a1_0) := (blk_cell BK232.out 0).trans rfl
              have hcz11_1 : wr.cell? ⟨gb232, 1, none⟩ = some (.int .u32 a1_1) := (blk_cell BK232.out 1).trans rfl
              have hcz11_2 : wr.cell? ⟨gb232, 2, none⟩ = some (.int .u32 a1_2) := (blk_cell BK232.out 2).trans rfl
              have hcz11_3 : wr.cell? ⟨gb232, 3, none⟩ = some (.slice A1_3 l1_3.length c1_3) := (blk_cell BK232.out 3).trans rfl
              have hcz11_4 : wr.cell? ⟨gb232, 4, none⟩ = some (.slice A1_4 l1_4.length c1_4) := (blk_cell BK232.out 4).trans rfl
              have hcz11_5 : wr.cell? ⟨gb232, 5, none⟩ = some (.bool a1_5) := (blk_cell BK232.out 5).trans rfl
              have hfz11_0 := blk_frozen BK232.out 0
              have hfz11_1 := blk_frozen BK232.out 1
              have hfz11_2 := blk_frozen BK232.out 2
              have hfz11_3 := blk_frozen BK232.out 3
              have hfz11_4 := blk_frozen BK232.out 4
              have hfz11_5 := blk_frozen BK232.out 5
              have p237 : 0 ≤ (x8_1 : Int) := of_decide_eq_true (by first | (with_reducible assumption) | assumption)
              have q237 : x8_1 < (l0.length : Int) := of_decide_eq_true (by first | (with_reducible assumption) | assumption)
              obtain ⟨ad237, A237_3, c237_3, A237_4, c237_4, e237, hx237_0, hx237_1, hx237_2, hx237_3, hx237_4, hx237_5, hl237_3, hi237_3, hl237_4, hi237_4⟩ := at_T39 (Kd.V_reads' HO_0.out).2.2 x8_1 p237 q237
              obtain rfl : ad233 = ad237 := (by injection e237)
              obtain ⟨ce237, hce237, hMe237, hcc237⟩ := Kd.V_get HO_0.out z39 x8_1 p237 (by first | exact q237 | exact of_decide_eq_true (by first | (with_reducible assumption) | assumption) | (have e_ := (Kd.V_reads' HO_0.out).1; omega))
              obtain ⟨ua237_3, uc237_3, ua237_4, uc237_4, rfl, ul237_3, ge237_3, ul237_4, ge237_4⟩ := k39_openF hMe237
              have hv237_3 := hcc237 3 _ rfl
              rw [add_field _ _ 3 (by omega)] at hv237_3
              replace hv237_3 := Option.some.inj (hv237_3.symm.trans hx237_3)
              injection hv237_3 with hva_ hvn_ hvc_
              rw [hva_] at ge237_3
              rw [hvc_] at ul237_3
              have HL237_3 := Aside0.mk (show Kd.V (Kd.int .u32) 36 _ w.heap.size _ _ ((rd_T39 l0 x8_1).f3) from Kd.V_mk ul237_3 ge237_3)
              clear hva_ hvn_ hvc_ ge237_3 ul237_3
              have hv237_4 := hcc237 4 _ rfl
              rw [add_field _ _ 4 (by omega)] at hv237_4
              replace hv237_4 := Option.some.inj (hv237_4.symm.trans hx237_4)
              injection hv237_4 with hva_ hvn_ hvc_
              rw [hva_] at ge237_4
              rw [hvc_] at ul237_4
              have HL237_4 := Aside0.mk (show Kd.V k66 66 _ w.heap.size _ _ ((rd_T39 l0 x8_1).f4) from Kd.V_mk ul237_4 ge237_4)
              clear hva_ hvn_ hvc_ ge237_4 ul237_4
              clear hcc237 hce237
              have HR237_3 := Aside0.mk hi237_3
              have HC237_3 := Aside0.mk hl237_3
              clear hi237_3 hl237_3
              have HR237_4 := Aside0.mk hi237_4
              have HC237_4 := Aside0.mk hl237_4
              clear hi237_4 hl237_4
              replace p237 := eq_true p237
              replace q237 := eq_true q237
              have ea_ := Option.some.inj (hx233_3.symm.trans hx237_3)
              injection ea_ with ea_ en_ ec_
              subst ea_
              subst ec_
              clear en_
              have ea_ := Option.some.inj (hx233_4.symm.trans hx237_4)
              injection ea_ with ea_ en_ ec_
              subst ea_
              subst ec_
              clear en_
              go_wp2_with (first | ((with_reducible refine gate_builtin (b := .append) (xs := #[.tmp 27, .tmp 32]) rfl ?_); at_builtin; refine Kd.N_append k39 (w0 := w) w.heap.size rfl (.tmp 27) (.tmp 32) 25 39 (.agg #[(.int .u32 0), (.int .u32 0), (.int .u32 0), (.slice none 0 0), (.slice none 0 0), (.bool false)]) 72 rfl Try.underlying25 info39 rfl (by decide) (by omega) u6 x6_1 (⟨(rd_T39 l0 x8_1).f0, (rd_T39 l0 x8_1).f1, (rd_T39 l0 x8_1).f2, (rd_T39 l0 x8_1).f3, (rd_T39 l0 x8_1).f4, (rd_T39 l0 x8_1).f5⟩ : S39) [.int .u32 ((rd_T39 l0 x8_1).f0), .int .u32 ((rd_T39 l0 x8_1).f1), .int .u32 ((rd_T39 l0 x8_1).f2), .slice A233_3 ((rd_T39 l0 x8_1).f3).length c233_3, .slice A233_4 ((rd_T39 l0 x8_1).f4).length c233_4, .bool ((rd_T39 l0 x8_1).f5)] (fun k_ => ((P0_ k_ ∨ P1_3_ k_ ∨ P1_4_ k_) ∨ w.heap.size ≤ k_) ∧ k_ ≠ gb232) (fun k_ => ((fun k_ => ((P0_ k_ ∨ P1_3_ k_ ∨ P1_4_ k_) ∨ w.heap.size ≤ k_) ∧ k_ ≠ gb232)) k_ ∧ some k_ ≠ (u6 : Value).ownBlock) rfl rfl ?aP (fun _ hk => hk) ?aF ?aO ?aB ?aS ?aL ?_; (case aP => exact (k39_mkF _ _ (⟨(rd_T39 l0 x8_1).f0, (rd_T39 l0 x8_1).f1, (rd_T39 l0 x8_1).f2, (rd_T39 l0 x8_1).f3, (rd_T39 l0 x8_1).f4, (rd_T39 l0 x8_1).f5⟩ : S39) (Kd.V_reads' (Kd.V_mono (ok' := (fun k_ => ((fun k_ => ((P0_ k_ ∨ P1_3_ k_ ∨ P1_4_ k_) ∨ w.heap.size ≤ k_) ∧ k_ ≠ gb232)) k_ ∧ some k_ ≠ (u6 : Value).ownBlock)) (HL237_3.out) (fun k_ hk => ⟨⟨hk.1, hk.2.2⟩, hk.2.1⟩))).2.1 (Kd.V_F (Kd.V_mono (ok' := (fun k_ => ((fun k_ => ((P0_ k_ ∨ P1_3_ k_ ∨ P1_4_ k_) ∨ w.heap.size ≤ k_) ∧ k_ ≠ gb232)) k_ ∧ some k_ ≠ (u6 : Value).ownBlock)) (HL237_3.out) (fun k_ hk => ⟨⟨hk.1, hk.2.2⟩, hk.2.1⟩))) (Kd.V_reads' (Kd.V_mono (ok' := (fun k_ => ((fun k_ => ((P0_ k_ ∨ P1_3_ k_ ∨ P1_4_ k_) ∨ w.heap.size ≤ k_) ∧ k_ ≠ gb232)) k_ ∧ some k_ ≠ (u6 : Value).ownBlock)) (HL237_4.out) (fun k_ hk => ⟨⟨hk.1, hk.2.2⟩, hk.2.1⟩))).2.1 (Kd.V_F (Kd.V_mono (ok' := (fun k_ => ((fun k_ => ((P0_ k_ ∨ P1_3_ k_ ∨ P1_4_ k_) ∨ w.heap.size ≤ k_) ∧ k_ ≠ gb232)) k_ ∧ some k_ ≠ (u6 : Value).ownBlock)) (HL237_4.out) (fun k_ hk => ⟨⟨hk.1, hk.2.2⟩, hk.2.1⟩))))); (case aB => exact (by repeat (first | (with_reducible first | exact HB.out | apply below_alloc | apply pw_below_drewN | apply below_drew1 | refine below_set ?_ GE232.out) | exact HB.out))); (case aF => exact (fun k_ hk => ⟨(.inr (Nat.le_trans (below_size (by repeat (first | (with_reducible first | exact HB.out | apply below_alloc | apply pw_below_drewN | apply below_drew1 | refine below_set ?_ GE232.out) | exact HB.out))) hk)), Kd.freshB (g := gb232) (o := .cells #[.int .u32 a1_0, .int .u32 a1_1, .int .u32 a1_2, .slice A1_3 l1_3.length c1_3, .slice A1_4 l1_4.length c1_4, .bool a1_5] 39 (0, 0)) (by (with_reducible repeat (first | refine blk_drewN ?_ _ | refine blk_drew ?_ | refine blk_alloc ?_ _)); exact BK232.out) k_ hk⟩)); (case aO => exact (by (with_reducible repeat (first | apply Kd.N_alloc | apply Kd.N_drewN | apply Kd.N_drew)); exact HO_6.out)); (case aS => exact (below_size (by repeat (first | (with_reducible first | exact HB.out | apply below_alloc | apply pw_below_drewN | apply below_drew1 | refine below_set ?_ GE232.out) | exact HB.out)))); (case aL => have := LMc10.out; omega); intro v239 w12 ho hb hg hat; rw [← Ny238.out] at ho; have n0_ := Aside0.mk (Kd.V_afterv (ok := (fun k_ => ((P0_ k_ ∨ P1_3_ k_ ∨ P1_4_ k_) ∨ w.heap.size ≤ k_) ∧ k_ ≠ gb232)) (by (with_reducible repeat (first | apply Kd.V_alloc | apply Kd.V_drewN | apply Kd.V_drew)); exact Kd.V_mono HO_0.out (fun _ hk => ⟨⟨hk.1, hk.2.2⟩, hk.2.1⟩)) hg hat); have n1_ := Aside0.mk (Kd.V_afterv (ok := (fun k_ => ((P0_ k_ ∨ P1_3_ k_ ∨ P1_4_ k_) ∨ w.heap.size ≤ k_) ∧ k_ ≠ gb232)) (by (with_reducible repeat (first | apply Kd.V_alloc | apply Kd.V_drewN | apply Kd.V_drew)); exact Kd.V_mono HO_233003.out (fun _ hk => ⟨⟨hk.1, hk.2.2⟩, hk.2.1⟩)) hg hat); have n2_ := Aside0.mk (Kd.V_afterv (ok := (fun k_ => ((P0_ k_ ∨ P1_3_ k_ ∨ P1_4_ k_) ∨ w.heap.size ≤ k_) ∧ k_ ≠ gb232)) (by (with_reducible repeat (first | apply Kd.V_alloc | apply Kd.V_drewN | apply Kd.V_drew)); exact Kd.V_mono HO_233004.out (fun _ hk => ⟨⟨hk.1, hk.2.2⟩, hk.2.1⟩)) hg hat); have n3_ := Aside0.mk (blk_grown (g := gb232) (o := .cells #[.int .u32 a1_0, .int .u32 a1_1, .int .u32 a1_2, .slice A1_3 l1_3.length c1_3, .slice A1_4 l1_4.length c1_4, .bool a1_5] 39 (0, 0)) (by (with_reducible repeat (first | refine blk_drewN ?_ _ | refine blk_drew ?_ | refine blk_alloc ?_ _)); exact BK232.out) hg (Kd.N_away HO_6.out (fun _ hk => hk.2))); have n4_ := Aside0.mk (Kd.V_afterv (ok := (fun k_ => ((P0_ k_ ∨ P1_3_ k_ ∨ P1_4_ k_) ∨ w.heap.size ≤ k_) ∧ k_ ≠ gb232)) (by (with_reducible repeat (first | apply Kd.V_alloc | apply Kd.V_drewN | apply Kd.V_drew)); exact Kd.V_mono HL233_3.out (fun _ hk => ⟨⟨hk.1, hk.2.2⟩, hk.2.1⟩)) hg hat); have n5_ := Aside0.mk (Kd.V_afterv (ok := (fun k_ => ((P0_ k_ ∨ P1_3_ k_ ∨ P1_4_ k_) ∨ w.heap.size ≤ k_) ∧ k_ ≠ gb232)) (by (with_reducible repeat (first | apply Kd.V_alloc | apply Kd.V_drewN | apply Kd.V_drew)); exact Kd.V_mono HL233_4.out (fun _ hk => ⟨⟨hk.1, hk.2.2⟩, hk.2.1⟩)) hg hat); have n6_ := Aside0.mk (Kd.V_afterv (ok := (fun k_ => ((P0_ k_ ∨ P1_3_ k_ ∨ P1_4_ k_) ∨ w.heap.size ≤ k_) ∧ k_ ≠ gb232)) (by (with_reducible repeat (first | apply Kd.V_alloc | apply Kd.V_drewN | apply Kd.V_drew)); exact Kd.V_mono HL237_3.out (fun _ hk => ⟨⟨hk.1, hk.2.2⟩, hk.2.1⟩)) hg hat); have n7_ := Aside0.mk (Kd.V_afterv (ok := (fun k_ => ((P0_ k_ ∨ P1_3_ k_ ∨ P1_4_ k_) ∨ w.heap.size ≤ k_) ∧ k_ ≠ gb232)) (by (with_reducible repeat (first | apply Kd.V_alloc | apply Kd.V_drewN | apply Kd.V_drew)); exact Kd.V_mono HL237_4.out (fun _ hk => ⟨⟨hk.1, hk.2.2⟩, hk.2.1⟩)) hg hat); have n8_ := Aside0.mk (hb); have n9_ := Aside0.mk (ho); clear HO_0; clear HO_233003; clear HO_233004; clear BK232; clear HL233_3; clear HL233_4; clear HL237_3; clear HL237_4; clear HB; clear HO_6; have HO_0 := n0_; have HO_233003 := n1_; have HO_233004 := n2_; have BK232 := n3_; have HL233_3 := n4_; have HL233_4 := n5_; have HL237_3 := n6_; have HL237_4 := n7_; have HB := n8_; have HO240 := n9_; clear n0_ n1_ n2_ n3_ n4_ n5_ n6_ n7_ n8_ n9_; clear ho hb hg hat))
              repeat (go_quiet (first | ((with_reducible refine gate_builtin (b := .append) (xs := #[.tmp 27, .tmp 32]) rfl ?_); at_builtin; refine Kd.N_append k39 (w0 := w) w.heap.size rfl (.tmp 27) (.tmp 32) 25 39 (.agg #[(.int .u32 0), (.int .u32 0), (.int .u32 0), (.slice none 0 0), (.slice none 0 0), (.bool false)]) 72 rfl Try.underlying25 info39 rfl (by decide) (by omega) u6 x6_1 (⟨(rd_T39 l0 x8_1).f0, (rd_T39 l0 x8_1).f1, (rd_T39 l0 x8_1).f2, (rd_T39 l0 x8_1).f3, (rd_T39 l0 x8_1).f4, (rd_T39 l0 x8_1).f5⟩ : S39) [.int .u32 ((rd_T39 l0 x8_1).f0), .int .u32 ((rd_T39 l0 x8_1).f1), .int .u32 ((rd_T39 l0 x8_1).f2), .slice A233_3 ((rd_T39 l0 x8_1).f3).length c233_3, .slice A233_4 ((rd_T39 l0 x8_1).f4).length c233_4, .bool ((rd_T39 l0 x8_1).f5)] (fun k_ => ((P0_ k_ ∨ P1_3_ k_ ∨ P1_4_ k_) ∨ w.heap.size ≤ k_) ∧ k_ ≠ gb232) (fun k_ => ((fun k_ => ((P0_ k_ ∨ P1_3_ k_ ∨ P1_4_ k_) ∨ w.heap.size ≤ k_) ∧ k_ ≠ gb232)) k_ ∧ some k_ ≠ (u6 : Value).ownBlock) rfl rfl ?aP (fun _ hk => hk) ?aF ?aO ?aB ?aS ?aL ?_; (case aP => exact (k39_mkF _ _ (⟨(rd_T39 l0 x8_1).f0, (rd_T39 l0 x8_1).f1, (rd_T39 l0 x8_1).f2, (rd_T39 l0 x8_1).f3, (rd_T39 l0 x8_1).f4, (rd_T39 l0 x8_1).f5⟩ : S39) (Kd.V_reads' (Kd.V_mono (ok' := (fun k_ => ((fun k_ => ((P0_ k_ ∨ P1_3_ k_ ∨ P1_4_ k_) ∨ w.heap.size ≤ k_) ∧ k_ ≠ gb232)) k_ ∧ some k_ ≠ (u6 : Value).ownBlock)) (HL237_3.out) (fun k_ hk => ⟨⟨hk.1, hk.2.2⟩, hk.2.1⟩))).2.1 (Kd.V_F (Kd.V_mono (ok' := (fun k_ => ((fun k_ => ((P0_ k_ ∨ P1_3_ k_ ∨ P1_4_ k_) ∨ w.heap.size ≤ k_) ∧ k_ ≠ gb232)) k_ ∧ some k_ ≠ (u6 : Value).ownBlock)) (HL237_3.out) (fun k_ hk => ⟨⟨hk.1, hk.2.2⟩, hk.2.1⟩))) (Kd.V_reads' (Kd.V_mono (ok' := (fun k_ => ((fun k_ => ((P0_ k_ ∨ P1_3_ k_ ∨ P1_4_ k_) ∨ w.heap.size ≤ k_) ∧ k_ ≠ gb232)) k_ ∧ some k_ ≠ (u6 : Value).ownBlock)) (HL237_4.out) (fun k_ hk => ⟨⟨hk.1, hk.2.2⟩, hk.2.1⟩))).2.1 (Kd.V_F (Kd.V_mono (ok' := (fun k_ => ((fun k_ => ((P0_ k_ ∨ P1_3_ k_ ∨ P1_4_ k_) ∨ w.heap.size ≤ k_) ∧ k_ ≠ gb232)) k_ ∧ some k_ ≠ (u6 : Value).ownBlock)) (HL237_4.out) (fun k_ hk => ⟨⟨hk.1, hk.2.2⟩, hk.2.1⟩))))); (case aB => exact (by repeat (first | (with_reducible first | exact HB.out | apply below_alloc | apply pw_below_drewN | apply below_drew1 | refine below_set ?_ GE232.out) | exact HB.out))); (case aF => exact (fun k_ hk => ⟨(.inr (Nat.le_trans (below_size (by repeat (first | (with_reducible first | exact HB.out | apply below_alloc | apply pw_below_drewN | apply below_drew1 | refine below_set ?_ GE232.out) | exact HB.out))) hk)), Kd.freshB (g := gb232) (o := .cells #[.int .u32 a1_0, .int .u32 a1_1, .int .u32 a1_2, .slice A1_3 l1_3.length c1_3, .slice A1_4 l1_4.length c1_4, .bool a1_5] 39 (0, 0)) (by (with_reducible repeat (first | refine blk_drewN ?_ _ | refine blk_drew ?_ | refine blk_alloc ?_ _)); exact BK232.out) k_ hk⟩)); (case aO => exact (by (with_reducible repeat (first | apply Kd.N_alloc | apply Kd.N_drewN | apply Kd.N_drew)); exact HO_6.out)); (case aS => exact (below_size (by repeat (first | (with_reducible first | exact HB.out | apply below_alloc | apply pw_below_drewN | apply below_drew1 | refine below_set ?_ GE232.out) | exact HB.out)))); (case aL => have := LMc10.out; omega); intro v239 w12 ho hb hg hat; rw [← Ny238.out] at ho; have n0_ := Aside0.mk (Kd.V_afterv (ok := (fun k_ => ((P0_ k_ ∨ P1_3_ k_ ∨ P1_4_ k_) ∨ w.heap.size ≤ k_) ∧ k_ ≠ gb232)) (by (with_reducible repeat (first | apply Kd.V_alloc | apply Kd.V_drewN | apply Kd.V_drew)); exact Kd.V_mono HO_0.out (fun _ hk => ⟨⟨hk.1, hk.2.2⟩, hk.2.1⟩)) hg hat); have n1_ := Aside0.mk (Kd.V_afterv (ok := (fun k_ => ((P0_ k_ ∨ P1_3_ k_ ∨ P1_4_ k_) ∨ w.heap.size ≤ k_) ∧ k_ ≠ gb232)) (by (with_reducible repeat (first | apply Kd.V_alloc | apply Kd.V_drewN | apply Kd.V_drew)); exact Kd.V_mono HO_233003.out (fun _ hk => ⟨⟨hk.1, hk.2.2⟩, hk.2.1⟩)) hg hat); have n2_ := Aside0.mk (Kd.V_afterv (ok := (fun k_ => ((P0_ k_ ∨ P1_3_ k_ ∨ P1_4_ k_) ∨ w.heap.size ≤ k_) ∧ k_ ≠ gb232)) (by (with_reducible repeat (first | apply Kd.V_alloc | apply Kd.V_drewN | apply Kd.V_drew)); exact Kd.V_mono HO_233004.out (fun _ hk => ⟨⟨hk.1, hk.2.2⟩, hk.2.1⟩)) hg hat); have n3_ := Aside0.mk (blk_grown (g := gb232) (o := .cells #[.int .u32 a1_0, .int .u32 a1_1, .int .u32 a1_2, .slice A1_3 l1_3.length c1_3, .slice A1_4 l1_4.length c1_4, .bool a1_5] 39 (0, 0)) (by (with_reducible repeat (first | refine blk_drewN ?_ _ | refine blk_drew ?_ | refine blk_alloc ?_ _)); exact BK232.out) hg (Kd.N_away HO_6.out (fun _ hk => hk.2))); have n4_ := Aside0.mk (Kd.V_afterv (ok := (fun k_ => ((P0_ k_ ∨ P1_3_ k_ ∨ P1_4_ k_) ∨ w.heap.size ≤ k_) ∧ k_ ≠ gb232)) (by (with_reducible repeat (first | apply Kd.V_alloc | apply Kd.V_drewN | apply Kd.V_drew)); exact Kd.V_mono HL233_3.out (fun _ hk => ⟨⟨hk.1, hk.2.2⟩, hk.2.1⟩)) hg hat); have n5_ := Aside0.mk (Kd.V_afterv (ok := (fun k_ => ((P0_ k_ ∨ P1_3_ k_ ∨ P1_4_ k_) ∨ w.heap.size ≤ k_) ∧ k_ ≠ gb232)) (by (with_reducible repeat (first | apply Kd.V_alloc | apply Kd.V_drewN | apply Kd.V_drew)); exact Kd.V_mono HL233_4.out (fun _ hk => ⟨⟨hk.1, hk.2.2⟩, hk.2.1⟩)) hg hat); have n6_ := Aside0.mk (Kd.V_afterv (ok := (fun k_ => ((P0_ k_ ∨ P1_3_ k_ ∨ P1_4_ k_) ∨ w.heap.size ≤ k_) ∧ k_ ≠ gb232)) (by (with_reducible repeat (first | apply Kd.V_alloc | apply Kd.V_drewN | apply Kd.V_drew)); exact Kd.V_mono HL237_3.out (fun _ hk => ⟨⟨hk.1, hk.2.2⟩, hk.2.1⟩)) hg hat); have n7_ := Aside0.mk (Kd.V_afterv (ok := (fun k_ => ((P0_ k_ ∨ P1_3_ k_ ∨ P1_4_ k_) ∨ w.heap.size ≤ k_) ∧ k_ ≠ gb232)) (by (with_reducible repeat (first | apply Kd.V_alloc | apply Kd.V_drewN | apply Kd.V_drew)); exact Kd.V_mono HL237_4.out (fun _ hk => ⟨⟨hk.1, hk.2.2⟩, hk.2.1⟩)) hg hat); have n8_ := Aside0.mk (hb); have n9_ := Aside0.mk (ho); clear HO_0; clear HO_233003; clear HO_233004; clear BK232; clear HL233_3; clear HL233_4; clear HL237_3; clear HL237_4; clear HB; clear HO_6; have HO_0 := n0_; have HO_233003 := n1_; have HO_233004 := n2_; have BK232 := n3_; have HL233_3 := n4_; have HL233_4 := n5_; have HL237_3 := n6_; have HL237_4 := n7_; have HB := n8_; have HO240 := n9_; clear n0_ n1_ n2_ n3_ n4_ n5_ n6_ n7_ n8_ n9_; clear ho hb hg hat)); try go_wp2_with (first | ((with_reducible refine gate_builtin (b := .append) (xs := #[.tmp 27, .tmp 32]) rfl ?_); at_builtin; refine Kd.N_append k39 (w0 := w) w.heap.size rfl (.tmp 27) (.tmp 32) 25 39 (.agg #[(.int .u32 0), (.int .u32 0), (.int .u32 0), (.slice none 0 0), (.slice none 0 0), (.bool false)]) 72 rfl Try.underlying25 info39 rfl (by decide) (by omega) u6 x6_1 (⟨(rd_T39 l0 x8_1).f0, (rd_T39 l0 x8_1).f1, (rd_T39 l0 x8_1).f2, (rd_T39 l0 x8_1).f3, (rd_T39 l0 x8_1).f4, (rd_T39 l0 x8_1).f5⟩ : S39) [.int .u32 ((rd_T39 l0 x8_1).f0), .int .u32 ((rd_T39 l0 x8_1).f1), .int .u32 ((rd_T39 l0 x8_1).f2), .slice A233_3 ((rd_T39 l0 x8_1).f3).length c233_3, .slice A233_4 ((rd_T39 l0 x8_1).f4).length c233_4, .bool ((rd_T39 l0 x8_1).f5)] (fun k_ => ((P0_ k_ ∨ P1_3_ k_ ∨ P1_4_ k_) ∨ w.heap.size ≤ k_) ∧ k_ ≠ gb232) (fun k_ => ((fun k_ => ((P0_ k_ ∨ P1_3_ k_ ∨ P1_4_ k_) ∨ w.heap.size ≤ k_) ∧ k_ ≠ gb232)) k_ ∧ some k_ ≠ (u6 : Value).ownBlock) rfl rfl ?aP (fun _ hk => hk) ?aF ?aO ?aB ?aS ?aL ?_; (case aP => exact (k39_mkF _ _ (⟨(rd_T39 l0 x8_1).f0, (rd_T39 l0 x8_1).f1, (rd_T39 l0 x8_1).f2, (rd_T39 l0 x8_1).f3, (rd_T39 l0 x8_1).f4, (rd_T39 l0 x8_1).f5⟩ : S39) (Kd.V_reads' (Kd.V_mono (ok' := (fun k_ => ((fun k_ => ((P0_ k_ ∨ P1_3_ k_ ∨ P1_4_ k_) ∨ w.heap.size ≤ k_) ∧ k_ ≠ gb232)) k_ ∧ some k_ ≠ (u6 : Value).ownBlock)) (HL237_3.out) (fun k_ hk => ⟨⟨hk.1, hk.2.2⟩, hk.2.1⟩))).2.1 (Kd.V_F (Kd.V_mono (ok' := (fun k_ => ((fun k_ => ((P0_ k_ ∨ P1_3_ k_ ∨ P1_4_ k_) ∨ w.heap.size ≤ k_) ∧ k_ ≠ gb232)) k_ ∧ some k_ ≠ (u6 : Value).ownBlock)) (HL237_3.out) (fun k_ hk => ⟨⟨hk.1, hk.2.2⟩, hk.2.1⟩))) (Kd.V_reads' (Kd.V_mono (ok' := (fun k_ => ((fun k_ => ((P0_ k_ ∨ P1_3_ k_ ∨ P1_4_ k_) ∨ w.heap.size ≤ k_) ∧ k_ ≠ gb232)) k_ ∧ some k_ ≠ (u6 : Value).ownBlock)) (HL237_4.out) (fun k_ hk => ⟨⟨hk.1, hk.2.2⟩, hk.2.1⟩))).2.1 (Kd.V_F (Kd.V_mono (ok' := (fun k_ => ((fun k_ => ((P0_ k_ ∨ P1_3_ k_ ∨ P1_4_ k_) ∨ w.heap.size ≤ k_) ∧ k_ ≠ gb232)) k_ ∧ some k_ ≠ (u6 : Value).ownBlock)) (HL237_4.out) (fun k_ hk => ⟨⟨hk.1, hk.2.2⟩, hk.2.1⟩))))); (case aB => exact (by repeat (first | (with_reducible first | exact HB.out | apply below_alloc | apply pw_below_drewN | apply below_drew1 | refine below_set ?_ GE232.out) | exact HB.out))); (case aF => exact (fun k_ hk => ⟨(.inr (Nat.le_trans (below_size (by repeat (first | (with_reducible first | exact HB.out | apply below_alloc | apply pw_below_drewN | apply below_drew1 | refine below_set ?_ GE232.out) | exact HB.out))) hk)), Kd.freshB (g := gb232) (o := .cells #[.int .u32 a1_0, .int .u32 a1_1, .int .u32 a1_2, .slice A1_3 l1_3.length c1_3, .slice A1_4 l1_4.length c1_4, .bool a1_5] 39 (0, 0)) (by (with_reducible repeat (first | refine blk_drewN ?_ _ | refine blk_drew ?_ | refine blk_alloc ?_ _)); exact BK232.out) k_ hk⟩)); (case aO => exact (by (with_reducible repeat (first | apply Kd.N_alloc | apply Kd.N_drewN | apply Kd.N_drew)); exact HO_6.out)); (case aS => exact (below_size (by repeat (first | (with_reducible first | exact HB.out | apply below_alloc | apply pw_below_drewN | apply below_drew1 | refine below_set ?_ GE232.out) | exact HB.out)))); (case aL => have := LMc10.out; omega); intro v239 w12 ho hb hg hat; rw [← Ny238.out] at ho; have n0_ := Aside0.mk (Kd.V_afterv (ok := (fun k_ => ((P0_ k_ ∨ P1_3_ k_ ∨ P1_4_ k_) ∨ w.heap.size ≤ k_) ∧ k_ ≠ gb232)) (by (with_reducible repeat (first | apply Kd.V_alloc | apply Kd.V_drewN | apply Kd.V_drew)); exact Kd.V_mono HO_0.out (fun _ hk => ⟨⟨hk.1, hk.2.2⟩, hk.2.1⟩)) hg hat); have n1_ := Aside0.mk (Kd.V_afterv (ok := (fun k_ => ((P0_ k_ ∨ P1_3_ k_ ∨ P1_4_ k_) ∨ w.heap.size ≤ k_) ∧ k_ ≠ gb232)) (by (with_reducible repeat (first | apply Kd.V_alloc | apply Kd.V_drewN | apply Kd.V_drew)); exact Kd.V_mono HO_233003.out (fun _ hk => ⟨⟨hk.1, hk.2.2⟩, hk.2.1⟩)) hg hat); have n2_ := Aside0.mk (Kd.V_afterv (ok := (fun k_ => ((P0_ k_ ∨ P1_3_ k_ ∨ P1_4_ k_) ∨ w.heap.size ≤ k_) ∧ k_ ≠ gb232)) (by (with_reducible repeat (first | apply Kd.V_alloc | apply Kd.V_drewN | apply Kd.V_drew)); exact Kd.V_mono HO_233004.out (fun _ hk => ⟨⟨hk.1, hk.2.2⟩, hk.2.1⟩)) hg hat); have n3_ := Aside0.mk (blk_grown (g := gb232) (o := .cells #[.int .u32 a1_0, .int .u32 a1_1, .int .u32 a1_2, .slice A1_3 l1_3.length c1_3, .slice A1_4 l1_4.length c1_4, .bool a1_5] 39 (0, 0)) (by (with_reducible repeat (first | refine blk_drewN ?_ _ | refine blk_drew ?_ | refine blk_alloc ?_ _)); exact BK232.out) hg (Kd.N_away HO_6.out (fun _ hk => hk.2))); have n4_ := Aside0.mk (Kd.V_afterv (ok := (fun k_ => ((P0_ k_ ∨ P1_3_ k_ ∨ P1_4_ k_) ∨ w.heap.size ≤ k_) ∧ k_ ≠ gb232)) (by (with_reducible repeat (first | apply Kd.V_alloc | apply Kd.V_drewN | apply Kd.V_drew)); exact Kd.V_mono HL233_3.out (fun _ hk => ⟨⟨hk.1, hk.2.2⟩, hk.2.1⟩)) hg hat); have n5_ := Aside0.mk (Kd.V_afterv (ok := (fun k_ => ((P0_ k_ ∨ P1_3_ k_ ∨ P1_4_ k_) ∨ w.heap.size ≤ k_) ∧ k_ ≠ gb232)) (by (with_reducible repeat (first | apply Kd.V_alloc | apply Kd.V_drewN | apply Kd.V_drew)); exact Kd.V_mono HL233_4.out (fun _ hk => ⟨⟨hk.1, hk.2.2⟩, hk.2.1⟩)) hg hat); have n6_ := Aside0.mk (Kd.V_afterv (ok := (fun k_ => ((P0_ k_ ∨ P1_3_ k_ ∨ P1_4_ k_) ∨ w.heap.size ≤ k_) ∧ k_ ≠ gb232)) (by (with_reducible repeat (first | apply Kd.V_alloc | apply Kd.V_drewN | apply Kd.V_drew)); exact Kd.V_mono HL237_3.out (fun _ hk => ⟨⟨hk.1, hk.2.2⟩, hk.2.1⟩)) hg hat); have n7_ := Aside0.mk (Kd.V_afterv (ok := (fun k_ => ((P0_ k_ ∨ P1_3_ k_ ∨ P1_4_ k_) ∨ w.heap.size ≤ k_) ∧ k_ ≠ gb232)) (by (with_reducible repeat (first | apply Kd.V_alloc | apply Kd.V_drewN | apply Kd.V_drew)); exact Kd.V_mono HL237_4.out (fun _ hk => ⟨⟨hk.1, hk.2.2⟩, hk.2.1⟩)) hg hat); have n8_ := Aside0.mk (hb); have n9_ := Aside0.mk (ho); clear HO_0; clear HO_233003; clear HO_233004; clear BK232; clear HL233_3; clear HL233_4; clear HL237_3; clear HL237_4; clear HB; clear HO_6; have HO_0 := n0_; have HO_233003 := n1_; have HO_233004 := n2_; have BK232 := n3_; have HL233_3 := n4_; have HL233_4 := n5_; have HL237_3 := n6_; have HL237_4 := n7_; have HB := n8_; have HO240 := n9_; clear n0_ n1_ n2_ n3_ n4_ n5_ n6_ n7_ n8_ n9_; clear ho hb hg hat)))
              go_roundg k1
              case measure => have := HK1.out; omega
              case rel => exact ⟨(y238), (x7_1), (wrap64 (x8_1 + 1)), (by first | rfl | (simp; done) | (simp [*]; done)), (by first | rfl | (simp; done) | (simp [*]; done)), H', ⟨by have := HK1.out; omega⟩, ⟨by (with_reducible repeat (first | apply Kd.V_alloc | apply Kd.V_drewN | apply Kd.V_drew)); exact Kd.V_mono HO_0.out (fun _ hk => ⟨hk.1.1, ⟨hk.2, hk.1.2⟩⟩)⟩, ⟨by (with_reducible repeat (first | apply Kd.N_alloc | apply Kd.N_drewN | apply Kd.N_drew)); exact HO240.out⟩, ⟨by (with_reducible repeat (first | apply Kd.V_alloc | apply Kd.V_drewN | apply Kd.V_drew)); exact Kd.V_mono HO_233003.out (fun _ hk => ⟨hk.1.1, ⟨hk.2, hk.1.2⟩⟩)⟩, ⟨by (with_reducible repeat (first | apply Kd.V_alloc | apply Kd.V_drewN | apply Kd.V_drew)); exact Kd.V_mono HO_233004.out (fun _ hk => ⟨hk.1.1, ⟨hk.2, hk.1.2⟩⟩)⟩, ⟨by (with_reducible repeat (first | refine blk_drewN ?_ _ | refine blk_drew ?_ | refine blk_alloc ?_ _)); exact BK232.out⟩, ⟨by repeat (first | (with_reducible first | exact HB.out | apply below_alloc | apply pw_below_drewN | apply below_drew1 | refine below_set ?_ GE232.out) | exact HB.out)⟩⟩
            · rw [if_neg c10] at H
              exact absurd H (by simp)
        · rw [if_neg c5] at H
          exact absurd H (by simp)
      · rw [if_neg c4] at H
        have c4b0 : decide (x8_1 < (l0.length : Int)) = false := decide_eq_false c4
        clear c4
        simp only [Option.some.injEq, Prod.mk.injEq] at H
        obtain ⟨rfl, rfl⟩ := H
        go_wp2
        repeat (go_quiet (fail); try go_wp2)
        go_ret2
        exact ⟨_, by first | rfl | (simp [errW_none, errW_some] <;> rfl) | (simp [*, errW_none, errW_some] <;> rfl), by (with_reducible repeat (first | apply Kd.N_alloc | apply Kd.N_drewN | apply Kd.N_drew)); exact Kd.N_mono HO_6.out (fun _ hk => hk.1), by repeat (first | (with_reducible first | exact HB.out | apply below_alloc | apply pw_below_drewN | apply below_drew1 | refine below_set ?_ GE232.out) | exact HB.out)⟩

/-! ### chamberlainlaw10_PeopleKeeps: function 6 -/
def chamberlainlaw10_PeopleKeeps.f (l0 : List (S39)) (a1_0 : Int) (a1_1 : Int) (a1_2 : Int) (l1_3 : List Int) (l1_4 : List (S66)) (a1_5 : Bool) : Option (Bool) := if 0 ≤ a1_0 ∧ a1_0 < 4294967296 then some true else none
namespace uk
theorem wf32 {x : Int} (h : (Lit.int .u32 x).wf = true) : 0 ≤ x ∧ x < 4294967296 := by
  simp only [Lit.wf, IntKind.min, IntKind.max, IntKind.signed, IntKind.bits, Bool.and_eq_true] at h
  simp at h
  omega
theorem wf8 {x : Int} (h : (Lit.int .u8 x).wf = true) : 0 ≤ x ∧ x < 256 := by
  simp only [Lit.wf, IntKind.min, IntKind.max, IntKind.signed, IntKind.bits, Bool.and_eq_true] at h
  simp at h
  omega
theorem wf16 {x : Int} (h : (Lit.int .u16 x).wf = true) : 0 ≤ x ∧ x < 65536 := by
  simp only [Lit.wf, IntKind.min, IntKind.max, IntKind.signed, IntKind.bits, Bool.and_eq_true] at h
  simp at h
  omega
theorem wf64 {x : Int} (h : (Lit.int .i64 x).wf = true) : -9223372036854775808 ≤ x ∧ x ≤ 9223372036854775807 := by
  simp only [Lit.wf, IntKind.min, IntKind.max, IntKind.signed, IntKind.bits, Bool.and_eq_true] at h
  simp at h
  omega
theorem w64 {x : Int} (h1 : -9223372036854775808 ≤ x) (h2 : x ≤ 9223372036854775807) : wrap64 x = x := by
  unfold wrap64
  omega
theorem rd_nat (xs : List Int) (i : Nat) (h : i < xs.length) : rd xs (i : Int) = xs[i] := by
  unfold rd
  simp [List.getD_eq_getElem?_getD, h]
/-- From place i on, n places: does p hold of all? -/
def allF (p : Nat → Bool) : Nat → Nat → Bool
  | 0, _ => true
  | n + 1, i => p i && allF p n (i + 1)
theorem allF_iff (p : Nat → Bool) (n i : Nat) : allF p n i = true ↔ ∀ j, i ≤ j → j < i + n → p j = true := by
  induction n generalizing i with
  | zero => simp [allF]; intro j h1 h2; omega
  | succ n ih =>
    simp only [allF, Bool.and_eq_true, ih]
    constructor
    · rintro ⟨h0, h⟩ j h1 h2
      by_cases e : j = i
      · subst e; exact h0
      · exact h j (by omega) (by omega)
    · intro h
      exact ⟨h i (by omega) (by omega), fun j h1 h2 => h j (by omega) (by omega)⟩
/-- The first place from i on, of n, of which p holds. -/
def fnd (p : Nat → Bool) : Nat → Nat → Option Nat
  | 0, _ => none
  | n + 1, i => if p i = true then some i else fnd p n (i + 1)
theorem fnd_some {p : Nat → Bool} {n i j : Nat} (h : fnd p n i = some j) : i ≤ j ∧ j < i + n ∧ p j = true ∧ ∀ m, i ≤ m → m < j → p m = false := by
  induction n generalizing i with
  | zero => simp [fnd] at h
  | succ n ih =>
    simp only [fnd] at h
    by_cases e : p i = true
    · rw [if_pos e] at h
      cases h
      exact ⟨Nat.le_refl _, by omega, e, fun m h1 h2 => by omega⟩
    · rw [if_neg e] at h
      obtain ⟨h1, h2, h3, h4⟩ := ih h
      refine ⟨by omega, by omega, h3, fun m m1 m2 => ?_⟩
      by_cases c : m = i
      · subst c; simpa using e
      · exact h4 m (by omega) m2
theorem fnd_none {p : Nat → Bool} {n i : Nat} (h : fnd p n i = none) : ∀ m, i ≤ m → m < i + n → p m = false := by
  induction n generalizing i with
  | zero => intro m h1 h2; omega
  | succ n ih =>
    simp only [fnd] at h
    by_cases e : p i = true
    · rw [if_pos e] at h; cases h
    · rw [if_neg e] at h
      intro m h1 h2
      by_cases c : m = i
      · subst c; simpa using e
      · exact ih h m (by omega) (by omega)
theorem fnd_eq_some {p : Nat → Bool} {n i j : Nat} (h1 : i ≤ j) (h2 : j < i + n) (h3 : p j = true) (h4 : ∀ m, i ≤ m → m < j → p m = false) : fnd p n i = some j := by
  cases h : fnd p n i with
  | none => have := fnd_none h j h1 h2; rw [this] at h3; cases h3
  | some q =>
    obtain ⟨a, b, c, d⟩ := fnd_some h
    congr 1
    rcases Nat.lt_trichotomy q j with e | e | e
    · have := h4 q a e; rw [this] at c; cases c
    · exact e
    · have := d j h1 e; rw [this] at h3; cases h3
theorem fnd_eq_none {p : Nat → Bool} {n i : Nat} (h : ∀ m, i ≤ m → m < i + n → p m = false) : fnd p n i = none := by
  cases e : fnd p n i with
  | none => rfl
  | some q =>
    obtain ⟨a, b, c, _⟩ := fnd_some e
    rw [h q a b] at c; cases c
theorem rows_eq (a b : List Int) (h : a.length = b.length) : allF (fun i => decide (rd a (i : Int) = rd b (i : Int))) a.length 0 = decide (a = b) := by
  rw [Bool.eq_iff_iff, allF_iff]
  simp only [decide_eq_true_eq]
  constructor
  · intro H
    apply List.ext_getElem h
    intro i h1 h2
    have := H i (by omega) (by omega)
    rw [rd_nat a i h1, rd_nat b i h2] at this
    exact this
  · intro e j _ _
    rw [e]
/-- A loop that asks place by place. -/
theorem all_loop (f : Nat → Nat → Option Bool) (n : Nat) (p : Nat → Bool) (h : ∀ k i, i ≤ n → f (k + 1) i = if i < n then (if p i = true then f k (i + 1) else some false) else some true) :
    ∀ (d k i : Nat), n - i = d → i ≤ n → d < k → f k i = some (allF p d i) := by
  intro d
  induction d with
  | zero =>
    intro k i h1 h2 h3
    obtain ⟨k, rfl⟩ : ∃ m, k = m + 1 := ⟨k - 1, by omega⟩
    rw [h k i h2, if_neg (by omega)]; rfl
  | succ d ih =>
    intro k i h1 h2 h3
    obtain ⟨k, rfl⟩ : ∃ m, k = m + 1 := ⟨k - 1, by omega⟩
    rw [h k i h2, if_pos (by omega)]
    simp only [allF]
    cases e : p i with
    | true => rw [if_pos rfl, ih k (i + 1) (by omega) (by omega) (by omega)]; simp
    | false => simp
/-- A loop that looks for the first place. -/
theorem fnd_loop {α : Type} (f : Nat → Nat → Option α) (n : Nat) (p : Nat → Bool) (yes : Nat → α) (no : α) (c : Nat) (h : ∀ k i, i ≤ n → c ≤ k → f (k + 1) i = if i < n then (if p i = true then some (yes i) else f k (i + 1)) else some no) :
    ∀ (d k i : Nat), n - i = d → i ≤ n → c + d < k → f k i = some (match fnd p d i with | some j => yes j | none => no) := by
  intro d
  induction d with
  | zero =>
    intro k i h1 h2 h3
    obtain ⟨k, rfl⟩ : ∃ m, k = m + 1 := ⟨k - 1, by omega⟩
    rw [h k i h2 (by omega), if_neg (by omega)]; rfl
  | succ d ih =>
    intro k i h1 h2 h3
    obtain ⟨k, rfl⟩ : ∃ m, k = m + 1 := ⟨k - 1, by omega⟩
    rw [h k i h2 (by omega), if_pos (by omega)]
    simp only [fnd]
    cases e : p i with
    | true => simp
    | false => rw [if_neg (by simp), if_neg (by simp), ih k (i + 1) (by omega) (by omega) (by omega)]
theorem rsame_eq (a b : List Int) (k : Nat) (hb : a.length ≤ 4611686018427387904) (hk : a.length < k) : chamberlainref01_Same.f k a b = some (decide (a = b)) := by
  unfold chamberlainref01_Same.f
  by_cases hl : a.length = b.length
  · rw [if_pos (by omega)]
    have h := all_loop (fun k i => chamberlainref01_Same.l0 k a b (i : Int)) a.length (fun i => decide (rd a (i : Int) = rd b (i : Int))) (by
      intro k i hi
      simp only [chamberlainref01_Same.l0]
      by_cases c : i < a.length
      · rw [if_pos (by omega), if_pos (by omega), if_pos (by omega), if_pos c, w64 (by omega) (by omega)]
        simp
      · rw [if_neg (by omega), if_neg c]) a.length k 0 (by omega) (by omega) (by omega)
    simp only [Int.natCast_zero] at h
    rw [h, rows_eq a b hl]
  · rw [if_neg (by omega)]
    congr 1
    symm
    apply decide_eq_false
    intro e
    exact hl (by rw [e])
theorem rdP (xs : List S39) (i : Nat) (h : i < xs.length) : rd_T39 xs (i : Int) = xs[i] := by
  unfold rd_T39
  simp [List.getD_eq_getElem?_getD, h]
def rightP (l : List S39) : Bool := allF (fun i => decide ((rd_T39 l (i : Int)).f0 = (i : Int) % 4294967296)) l.length 0 && decide (2 ≤ l.length ∧ l.length ≤ 7)
theorem right_eq (l : List S39) (k : Nat) (hl : l.length ≤ 4611686018427387904) (hk : l.length < k) : people_Right.f k l = some (rightP l) := by
  unfold people_Right.f rightP
  have h : ∀ (d k i : Nat), l.length - i = d → i ≤ l.length → d < k → people_Right.l0 k l l (l.length : Int) (i : Int) = some (allF (fun i => decide ((rd_T39 l (i : Int)).f0 = (i : Int) % 4294967296)) d i && decide (2 ≤ l.length ∧ l.length ≤ 7)) := by
    intro d
    induction d with
    | zero =>
      intro k i h1 h2 h3
      obtain ⟨k, rfl⟩ : ∃ m, k = m + 1 := ⟨k - 1, by omega⟩
      rw [people_Right.l0, if_neg (by omega), allF, Bool.true_and]
      by_cases c : (l.length : Int) ≥ 2
      · rw [if_pos c]; congr 1; apply decide_eq_decide.mpr; omega
      · rw [if_neg c]; congr 1; symm; apply decide_eq_false; omega
    | succ d ih =>
      intro k i h1 h2 h3
      obtain ⟨k, rfl⟩ : ∃ m, k = m + 1 := ⟨k - 1, by omega⟩
      have ei : (i : Int) + 1 = ((i + 1 : Nat) : Int) := by omega
      rw [people_Right.l0, if_pos (by omega), if_pos (by omega), if_pos (by omega), allF]
      by_cases c : (rd_T39 l (i : Int)).f0 = (i : Int) % 4294967296
      · rw [if_pos c, w64 (by omega) (by omega), ei, ih k (i + 1) (by omega) (by omega) (by omega), decide_eq_true c, Bool.true_and]
      · rw [if_neg c, decide_eq_false c]; rfl
  have h0 := h l.length k 0 (by omega) (by omega) hk
  simp only [Int.natCast_zero] at h0
  exact h0
theorem rightP_iff (l : List S39) : rightP l = true ↔ (∀ i (h : i < l.length), l[i].f0 = (i : Int)) ∧ 2 ≤ l.length ∧ l.length ≤ 7 := by
  unfold rightP
  rw [Bool.and_eq_true, allF_iff, decide_eq_true_eq]
  constructor
  · rintro ⟨h1, h2⟩
    refine ⟨fun i hi => ?_, h2⟩
    have := h1 i (by omega) (by omega)
    rw [decide_eq_true_eq, rdP l i hi] at this
    omega
  · rintro ⟨h1, h2⟩
    refine ⟨fun i _ hi => ?_, h2⟩
    rw [decide_eq_true_eq, rdP l i (by omega), h1 i (by omega)]
    omega
theorem in_eq (l : List S39) (a : Int) (hl : l.length ≤ 1000000) (ha : 0 ≤ a ∧ a < 4294967296) : people_in.f l a = some (decide (a < (l.length : Int))) := by
  unfold people_in.f
  simp only [IntKind.wrap_u64]
  congr 1
  apply decide_eq_decide.mpr
  omega
/-- A person and whether there is one, as a tuple. -/
def six (p : S39) (ok : Bool) : Int × Int × Int × List Int × List S66 × Bool × Bool := (p.f0, p.f1, p.f2, p.f3, p.f4, p.f5, ok)
def getOf (l : List S39) (a : Int) : Int × Int × Int × List Int × List S66 × Bool × Bool := if a < (l.length : Int) then six (rd_T39 l a) true else (0, 0, 0, [], [], false, false)
theorem get_eq (l : List S39) (a : Int) (hl : l.length ≤ 1000000) (ha : 0 ≤ a ∧ a < 4294967296) : people_Get.f l a = some (getOf l a) := by
  unfold people_Get.f getOf six
  rw [in_eq l a hl ha, Option.bind_some]
  by_cases c : a < (l.length : Int)
  · rw [if_pos (decide_eq_true c), if_pos ha.1, if_pos c, if_pos c]
  · rw [if_neg (by simpa using c), if_neg c]
theorem clone_eq (l : List S39) (h : l.length < 1954687338268) : api_Person.f l = some l := by
  unfold api_Person.f
  rw [Option.bind_some, List.length_nil, if_pos (by omega), List.nil_append]
def setOf (l : List S39) (p : S39) : List S39 × Int := if p.f0 < (l.length : Int) then (l.set p.f0.toNat p, 0) else (l, 1)
theorem set_eq (l : List S39) (a b c : Int) (d : List Int) (e : List S66) (f : Bool) (hl : l.length ≤ 1000000) (ha : 0 ≤ a ∧ a < 4294967296) : people_Set.f l a b c d e f = some (setOf l ⟨a, b, c, d, e, f⟩) := by
  unfold people_Set.f setOf
  rw [in_eq l a hl ha, Option.bind_some]
  by_cases q : a < (l.length : Int)
  · rw [if_pos (decide_eq_true q), clone_eq l (by omega), Option.bind_some, if_pos ha.1, if_pos q, if_pos q]
  · rw [if_neg (by simpa using q), if_neg q]
def pairOf (l : List S39) (a b : Int) : Bool := decide (a ≠ b ∧ a ≠ 0 ∧ b ≠ 0 ∧ a < (l.length : Int) ∧ b < (l.length : Int))
theorem pair_eq (l : List S39) (a b : Int) (hl : l.length ≤ 1000000) (ha : 0 ≤ a ∧ a < 4294967296) (hb : 0 ≤ b ∧ b < 4294967296) : people_Pair.f l a b = some (pairOf l a b) := by
  unfold people_Pair.f pairOf
  by_cases c1 : a = b
  · rw [if_pos c1, decide_eq_false (fun h => h.1 c1)]
  rw [if_neg c1]
  by_cases c2 : a = 0
  · rw [if_pos c2, decide_eq_false (fun h => h.2.1 c2)]
  rw [if_neg c2]
  by_cases c3 : b = 0
  · rw [if_pos c3, decide_eq_false (fun h => h.2.2.1 c3)]
  rw [if_neg c3, in_eq l a hl ha, Option.bind_some, in_eq l b hl hb]
  by_cases c4 : a < (l.length : Int)
  · rw [if_pos (decide_eq_true c4), Option.bind_some]
    congr 1
    apply decide_eq_decide.mpr
    exact ⟨fun h => ⟨c1, c2, c3, c4, h⟩, fun h => h.2.2.2.2⟩
  · rw [if_neg (by simpa using c4), decide_eq_false (fun h => c4 h.2.2.2.1)]
theorem awake60 (k : Nat) (h : 60 ≤ k) : chamberlainlaw10_awake.f k = some true := at_rounds (chamberlainlaw10_awake.mono) h chamberlainlaw10_awake.at60
theorem rdT (xs : List S66) (i : Nat) (h : i < xs.length) : rd_T66 xs (i : Int) = xs[i] := by
  unfold rd_T66
  simp [List.getD_eq_getElem?_getD, h]
theorem runs_self (l : List S66) (k : Nat) (hl : l.length ≤ 1000000) (hk : l.length < k) : chamberlainref09_Same.f k l l = some true := by
  unfold chamberlainref09_Same.f
  rw [if_pos rfl]
  have h : ∀ (d k i : Nat), l.length - i = d → i ≤ l.length → d < k → chamberlainref09_Same.l0 k l l (i : Int) = some true := by
    intro d
    induction d with
    | zero =>
      intro k i h1 h2 h3
      obtain ⟨k, rfl⟩ : ∃ m, k = m + 1 := ⟨k - 1, by omega⟩
      rw [chamberlainref09_Same.l0, if_neg (by omega)]
    | succ d ih =>
      intro k i h1 h2 h3
      obtain ⟨k, rfl⟩ : ∃ m, k = m + 1 := ⟨k - 1, by omega⟩
      have ei : (i : Int) + 1 = ((i + 1 : Nat) : Int) := by omega
      rw [chamberlainref09_Same.l0, if_pos (by omega), if_pos (by omega), if_pos (by omega), if_neg (by simp), w64 (by omega) (by omega), ei, ih k (i + 1) (by omega) (by omega) (by omega)]
  have h0 := h l.length k 0 (by omega) (by omega) (by omega)
  simp only [Int.natCast_zero] at h0
  exact h0
/-- What a person has is short. -/
def small (p : S39) : Prop := p.f3.length ≤ 100 ∧ p.f4.length ≤ 100
theorem one_self (p : S39) (k : Nat) (h : small p) (hk : 200 < k) : chamberlainref10_One.f k p.f0 p.f1 p.f2 p.f3 p.f4 p.f5 p.f0 p.f1 p.f2 p.f3 p.f4 p.f5 = some true := by
  obtain ⟨h1, h2⟩ := h
  unfold chamberlainref10_One.f
  rw [if_pos rfl, if_pos rfl, if_pos rfl, if_pos (by simp), rsame_eq _ _ k (by omega) (by omega), Option.bind_some, if_pos (by simp), runs_self _ k (by omega) (by omega)]
  rfl
theorem ppl_self (l : List S39) (k : Nat) (hl : l.length ≤ 1000) (hs : ∀ p ∈ l, small p) (hk : l.length + 300 < k) : chamberlainref10_Same.f k l l = some true := by
  unfold chamberlainref10_Same.f
  rw [if_pos rfl]
  have h : ∀ (d k i : Nat), l.length - i = d → i ≤ l.length → 300 + d < k → chamberlainref10_Same.l0 k l l (i : Int) = some true := by
    intro d
    induction d with
    | zero =>
      intro k i h1 h2 h3
      obtain ⟨k, rfl⟩ : ∃ m, k = m + 1 := ⟨k - 1, by omega⟩
      rw [chamberlainref10_Same.l0, if_neg (by omega)]
    | succ d ih =>
      intro k i h1 h2 h3
      obtain ⟨k, rfl⟩ : ∃ m, k = m + 1 := ⟨k - 1, by omega⟩
      have ei : (i : Int) + 1 = ((i + 1 : Nat) : Int) := by omega
      have hi : i < l.length := by omega
      rw [chamberlainref10_Same.l0, if_pos (by omega), if_pos (by omega), if_pos (by omega), rdP l i hi, one_self _ k (hs _ (List.getElem_mem _)) (by omega), Option.bind_some, if_pos rfl, w64 (by omega) (by omega), ei, ih k (i + 1) (by omega) (by omega) (by omega)]
  have h0 := h l.length k 0 (by omega) (by omega) (by omega)
  simp only [Int.natCast_zero] at h0
  exact h0
def fewB (l : List S39) : Bool := allF (fun i => decide ((rd_T39 l (i : Int)).f3.length ≤ 100 ∧ (rd_T39 l (i : Int)).f4.length ≤ 100)) (min l.length 20) 0 && decide (l.length ≤ 10)
theorem few_eq (l : List S39) (k : Nat) (hl : l.length ≤ 9223372036854775807) (hk : 60 < k) : chamberlainref10_Few.f k l = some (fewB l) := by
  unfold chamberlainref10_Few.f fewB
  have h : ∀ (d k i : Nat), min l.length 20 - i = d → i ≤ min l.length 20 → d + d + 2 < k → chamberlainref10_Few.l0 k l (i : Int) = some (allF (fun i => decide ((rd_T39 l (i : Int)).f3.length ≤ 100 ∧ (rd_T39 l (i : Int)).f4.length ≤ 100)) d i && decide (l.length ≤ 10)) := by
    intro d
    induction d with
    | zero =>
      intro k i h1 h2 h3
      obtain ⟨k, rfl⟩ : ∃ m, k = m + 1 + 1 := ⟨k - 2, by omega⟩
      have e : decide ((l.length : Int) ≤ 10) = decide (l.length ≤ 10) := decide_eq_decide.mpr (by omega)
      rw [chamberlainref10_Few.l0, allF, Bool.true_and]
      by_cases c : (i : Int) < (l.length : Int)
      · rw [if_pos c, chamberlainref10_Few.j1, if_neg (by simp; omega), e]
      · rw [if_neg c, chamberlainref10_Few.j1, if_neg (by decide), e]
    | succ d ih =>
      intro k i h1 h2 h3
      obtain ⟨k, rfl⟩ : ∃ m, k = m + 1 + 1 := ⟨k - 2, by omega⟩
      have ei : (i : Int) + 1 = ((i + 1 : Nat) : Int) := by omega
      rw [chamberlainref10_Few.l0, if_pos (by omega), chamberlainref10_Few.j1, if_pos (decide_eq_true (by omega)), if_pos (by omega), if_pos (by omega), allF]
      by_cases c1 : ((rd_T39 l (i : Int)).f3.length : Int) > 100
      · rw [if_pos c1, decide_eq_false (by omega)]; rfl
      · rw [if_neg c1]
        by_cases c2 : ((rd_T39 l (i : Int)).f4.length : Int) > 100
        · rw [if_pos c2, decide_eq_false (by omega)]; rfl
        · have e3 : decide ((rd_T39 l (i : Int)).f3.length ≤ 100 ∧ (rd_T39 l (i : Int)).f4.length ≤ 100) = true := decide_eq_true (by omega)
          rw [if_neg c2, w64 (by omega) (by omega), ei, ih k (i + 1) (by omega) (by omega) (by omega), e3, Bool.true_and]
  have h0 := h (min l.length 20) k 0 (by omega) (by omega) (by omega)
  simp only [Int.natCast_zero] at h0
  exact h0
theorem fewB_iff (l : List S39) : fewB l = true ↔ l.length ≤ 10 ∧ ∀ p ∈ l, small p := by
  unfold fewB
  rw [Bool.and_eq_true, allF_iff, decide_eq_true_eq]
  constructor
  · rintro ⟨h1, h2⟩
    refine ⟨h2, fun p hp => ?_⟩
    obtain ⟨i, hi, e⟩ := List.getElem_of_mem hp
    have := h1 i (by omega) (by omega)
    rw [decide_eq_true_eq, rdP l i hi, e] at this
    exact this
  · rintro ⟨h1, h2⟩
    refine ⟨fun i _ hi => ?_, h1⟩
    rw [decide_eq_true_eq, rdP l i (by omega)]
    exact h2 _ (List.getElem_mem _)
theorem rright_eq (l : List S39) (k : Nat) (hl : l.length ≤ 4611686018427387904) (hk : l.length < k) : chamberlainref10_Right.f k l = some (rightP l) := by
  unfold chamberlainref10_Right.f rightP
  have h : ∀ (d k i : Nat), l.length - i = d → i ≤ l.length → d < k → chamberlainref10_Right.l0 k l (i : Int) = some (allF (fun i => decide ((rd_T39 l (i : Int)).f0 = (i : Int) % 4294967296)) d i && decide (2 ≤ l.length ∧ l.length ≤ 7)) := by
    intro d
    induction d with
    | zero =>
      intro k i h1 h2 h3
      obtain ⟨k, rfl⟩ : ∃ m, k = m + 1 := ⟨k - 1, by omega⟩
      rw [chamberlainref10_Right.l0, if_neg (by omega), allF, Bool.true_and]
      by_cases c : (l.length : Int) > 1
      · rw [if_pos c]; congr 1; apply decide_eq_decide.mpr; omega
      · rw [if_neg c]; congr 1; symm; apply decide_eq_false; omega
    | succ d ih =>
      intro k i h1 h2 h3
      obtain ⟨k, rfl⟩ : ∃ m, k = m + 1 := ⟨k - 1, by omega⟩
      have ei : (i : Int) + 1 = ((i + 1 : Nat) : Int) := by omega
      rw [chamberlainref10_Right.l0, if_pos (by omega), if_pos (by omega), allF]
      by_cases c : (rd_T39 l (i : Int)).f0 = (i : Int) % 4294967296
      · rw [if_pos c, w64 (by omega) (by omega), ei, ih k (i + 1) (by omega) (by omega) (by omega), decide_eq_true c, Bool.true_and]
      · rw [if_neg c, decide_eq_false c]; rfl
  have h0 := h l.length k 0 (by omega) (by omega) hk
  simp only [Int.natCast_zero] at h0
  exact h0
theorem rset_eq (l : List S39) (a b c : Int) (d : List Int) (e : List S66) (f : Bool) (k : Nat) (hr : rightP l = true) (ha : 0 ≤ a ∧ a < 4294967296) (hk : l.length < k) : chamberlainref10_Set.f k l a b c d e f = some (setOf l ⟨a, b, c, d, e, f⟩) := by
  obtain ⟨r1, r2, r3⟩ := (rightP_iff l).mp hr
  unfold chamberlainref10_Set.f
  have h : ∀ (q k i : Nat) (acc : List S39), l.length - i = q → i ≤ l.length → acc = (setOf l ⟨a, b, c, d, e, f⟩).1.take i → q < k →
      chamberlainref10_Set.l0 k l acc (if a < (i : Int) then 0 else 1) (i : Int) a b c d e f = some (setOf l ⟨a, b, c, d, e, f⟩) := by
    intro q
    induction q with
    | zero =>
      intro k i acc h1 h2 h3 h4
      obtain ⟨k, rfl⟩ : ∃ m, k = m + 1 := ⟨k - 1, by omega⟩
      have hil : i = l.length := by omega
      rw [chamberlainref10_Set.l0, if_neg (by omega), h3, hil]
      unfold setOf
      by_cases z : a < (l.length : Int)
      · rw [if_pos z, if_pos z]; simp [List.take_of_length_le]
      · rw [if_neg z, if_neg z]; simp
    | succ q ih =>
      intro k i acc h1 h2 h3 h4
      obtain ⟨k, rfl⟩ : ∃ m, k = m + 1 := ⟨k - 1, by omega⟩
      have ei : (i : Int) + 1 = ((i + 1 : Nat) : Int) := by omega
      have hi : i < l.length := by omega
      have hlen : acc.length ≤ i := by rw [h3, List.length_take]; omega
      have hsl : (setOf l ⟨a, b, c, d, e, f⟩).1.length = l.length := by unfold setOf; split <;> simp
      have hn : (rd_T39 l (i : Int)).f0 = (i : Int) := by rw [rdP l i hi]; exact r1 i hi
      have hs := List.take_succ_eq_append_getElem (l := (setOf l ⟨a, b, c, d, e, f⟩).1) (i := i) (by omega)
      rw [chamberlainref10_Set.l0, if_pos (by omega), if_pos (by omega)]
      by_cases z : (i : Int) = a
      · have hset : setOf l ⟨a, b, c, d, e, f⟩ = (l.set i ⟨a, b, c, d, e, f⟩, 0) := by
          unfold setOf
          rw [if_pos (by show a < _; omega)]
          congr 1
          show l.set a.toNat _ = _
          rw [← z]; simp
        rw [if_pos (by rw [hn]; exact z), if_pos (by omega), w64 (by omega) (by omega), ei]
        have e0 : (0 : Int) = if a < ((i + 1 : Nat) : Int) then 0 else 1 := by rw [if_pos (by omega)]
        rw [e0]
        apply ih k (i + 1) _ (by omega) (by omega) _ (by omega)
        rw [hs, ← h3]
        congr 1
        simp only [hset, List.getElem_set_self]
      · rw [if_neg (by rw [hn]; exact z), if_pos (by omega), w64 (by omega) (by omega), ei]
        have e0 : (if a < (i : Int) then (0 : Int) else 1) = if a < ((i + 1 : Nat) : Int) then 0 else 1 := by
          by_cases y : a < (i : Int)
          · rw [if_pos y, if_pos (by omega)]
          · rw [if_neg y, if_neg (by omega)]
        rw [e0]
        apply ih k (i + 1) _ (by omega) (by omega) _ (by omega)
        rw [hs, ← h3]
        congr 1
        have : (setOf l ⟨a, b, c, d, e, f⟩).1[i]'(by omega) = l[i] := by
          unfold setOf
          split
          · rw [List.getElem_set_ne (by show a.toNat ≠ i; omega)]
          · rfl
        rw [this, rdP l i hi]
  have h0 := h l.length k 0 [] (by omega) (by omega) (by simp) hk
  simp only [Int.natCast_zero] at h0
  rw [if_neg (by omega)] at h0
  exact h0
end uk
theorem kc.run {P : Program} (w : World) (dT sT ty elem : TypeId) (s g dLen dCap : Nat) (sp : Option Addr) (sLen sCap : Nat) (cur : List Value) (t : TypeId) (cs : List Value)
    (hu : P.underlying dT = some (.slice elem)) (hs : (P.info? elem).map (·.size) = some s) (hg : w.heap[g]? = some (.cells cur.toArray t (0, 0))) (hn : cs.length = Nat.min sLen dLen * s)
    (hsrc : 0 < cs.length → ∃ a, sp = some a ∧ ∀ j v, cs[j]? = some v → w.cell? (a.add j) = some v) (hfit : cs.length ≤ cur.length) (h1 : ∀ v ∈ cs, v.oneCell' = true) :
    (Builtin.copy_ #[dT, sT] ty #[.slice (some ⟨g, 0, none⟩) dLen dCap, .slice sp sLen sCap]).run P w = .ok (goInt (Nat.min sLen dLen)) (w.setRow g (cs ++ cur.drop cs.length).toArray) := by
  have hst := run_storeCells_at P g 0 t cs 0 cur.toArray w hg (by simpa using hfit) h1
  simp only [Nat.zero_add, List.take_zero, List.nil_append] at hst
  cases hq : P.info? elem with
  | none => simp [hq] at hs
  | some i =>
    have hi : i.size = s := by simpa [hq] using hs
    rcases Nat.eq_zero_or_pos cs.length with h0 | hp
    · obtain rfl : cs = [] := List.eq_nil_of_length_eq_zero h0
      have hl : ∀ (x : Addr), (loadCells x 0).run P w = .ok #[] w := fun x => by simpa using run_loadCells_list (P := P) w x [] (by simp)
      have hz : Nat.min sLen dLen * s = 0 := by simpa using hn.symm
      have hw : w.setRow g (([] : List Value) ++ cur.drop ([] : List Value).length).toArray = w := by simpa using setRow_self w g cur.toArray t (0, 0) hg
      rw [hw]
      cases sp <;> simp [Builtin.copy_, run_underlying hu, Builtin.lenOf, Builtin.firstCells, sizeOf, typeInfo, hq, hi, hz, hl, storeCells]
    · obtain ⟨a, rfl, hc⟩ := hsrc hp
      have hl := run_loadCells_list (P := P) w a cs hc
      simp [Builtin.copy_, run_underlying hu, Builtin.lenOf, Builtin.firstCells, sizeOf, typeInfo, hq, hi, ← hn, hl]
      simp [hst]
theorem kc.wp {P : Program} {w : World} {ops : Array Oper} {rest : List Oper} {o : Oper} {a : Act} {Q : Exit → Act → World → Prop} (hgd : o.guard = none) (d s : Operand) (dT sT elem : TypeId)
    (ho : o.op = .call { callee := .builtin .copy, args := #[d, s], argTypes := #[dT, sT] }) (sz g dLen dCap : Nat) (sp : Option Addr) (sLen sCap : Nat) (hd : a.eval d = .slice (some ⟨g, 0, none⟩) dLen dCap) (hs : a.eval s = .slice sp sLen sCap)
    (cur : List Value) (t : TypeId) (cs : List Value)
    (hu : P.underlying dT = some (.slice elem)) (hsz : (P.info? elem).map (·.size) = some sz) (hg : w.heap[g]? = some (.cells cur.toArray t (0, 0))) (hn : cs.length = Nat.min sLen dLen * sz)
    (hsrc : 0 < cs.length → ∃ a, sp = some a ∧ ∀ j v, cs[j]? = some v → w.cell? (a.add j) = some v) (hfit : cs.length ≤ cur.length) (h1 : ∀ v ∈ cs, v.oneCell' = true) (B : Nat) (w0 : World) (hb : Below B w0 w) (hBg : B ≤ g)
    (h : ∀ w', w'.heap[g]? = some (.cells (cs ++ cur.drop cs.length).toArray t (0, 0)) → Below B w0 w' → (∀ k, k ≠ g → w'.heap[k]? = w.heap[k]?) → wpList P ops Q rest (a.put o.dst (goInt (Nat.min sLen dLen))) w') : wpList P ops Q (o :: rest) a w := by
  refine wpList_plain hgd fun K hK => ?_
  have hr := kc.run (P := P) w dT sT o.type elem sz g dLen dCap sp sLen sCap cur t cs hu hsz hg hn hsrc hfit h1
  unfold Oper.wp execOp
  simp only [ho, resolve, invoke, builtin, Sem.run_bind, Sem.run_pure, Result.andThen_ok, List.map_toArray, List.map_cons, List.map_nil, hd, hs, hr]
  exact hK _ _ (h _ (setRow_heap w g _ _ t _ hg) (below_setRow hb hBg _) (fun k hk => setRow_other w g k _ hk))
theorem nrow.add0 (g n : Nat) : (⟨g, 0, none⟩ : Addr).add n = ⟨g, n, none⟩ := by
  unfold Addr.add
  by_cases h : n = 0
  · subst h; rfl
  · simp [h]
theorem nrow.F_block {α : Type} {d : Kd α} {W : World} {ok : Nat → Prop} {g : Nat} {cs : Array Value} {t : TypeId} (xs : List α) (rows : List (List Value)) (hb : W.heap[g]? = some (.cells cs t (0, 0))) (hok : ok g) (hl : rows.length = xs.length)
    (hr : ∀ (j : Nat) (x : α) (c : List Value), xs[j]? = some x → rows[j]? = some c → Kd.FK d W ok x c ∧ c.length = d.sz) (hc : ∀ (j : Nat) (c : List Value), rows[j]? = some c → ∀ (i : Nat) (u : Value), c[i]? = some u → cs[j * d.sz + i]? = some u) (hn : xs.length ≤ 9223372036854775807) :
    Kd.F d W ok (some ⟨g, 0, none⟩) xs.length xs := by
  intro W' hW
  have hb' : W'.heap[g]? = some (.cells cs t (0, 0)) := (hW g hok (blk_lt hb)).trans hb
  refine ⟨rfl, hn, fun _ => ⟨⟨g, 0, none⟩, rfl, fun j p hp => ?_⟩⟩
  have hj : j < xs.length := (List.getElem?_eq_some_iff.1 hp).1
  obtain ⟨c, hcj⟩ : ∃ c, rows[j]? = some c := ⟨rows[j]'(by omega), List.getElem?_eq_getElem (by omega)⟩
  obtain ⟨h1, h2⟩ := hr j p c hp hcj
  refine ⟨c, h2, h1 W' hW, fun i u hu => ?_⟩
  have := blk_cell hb' (j * d.sz + i)
  rw [hc j c hcj i u hu] at this
  rw [show (⟨g, 0, none⟩ : Addr).add (j * d.sz + i) = ⟨g, j * d.sz + i, none⟩ from nrow.add0 _ _]
  exact this
theorem nrow.olds {α : Type} {d : Kd α} {W : World} {ok : Nat → Prop} {A : Option Addr} {l : List α} (h : Kd.F d W ok A l.length l) (hs : 0 < d.sz) :
    ∃ olds : List Value, olds.length = l.length * d.sz ∧ (∀ b, A = some b → ∀ j u, olds[j]? = some u → W.cell? (b.add j) = some u) ∧ (A = none → l.length = 0) ∧ (∀ (j : Nat) (x : α), l[j]? = some x → Kd.FK d W ok x ((olds.drop (j * d.sz)).take d.sz)) ∧ ∀ u ∈ olds, u.oneCell' = true := by
  have hr := Kd.F_rows h
  rcases Nat.eq_zero_or_pos l.length with h0 | hp
  · have : l = [] := List.eq_nil_of_length_eq_zero h0
    subst this
    exact ⟨[], by simp, fun b _ j u hu => by simp at hu, fun _ => rfl, fun j x hx => by simp at hx, fun u hu => by simp at hu⟩
  · obtain ⟨ad, rfl, _⟩ := hr.2.2 hp
    obtain ⟨inner, hi, hc⟩ := ReadsRow.inner_ hr
    refine ⟨inner, hi.1, fun b e j u hu => (by cases e; exact hc j u hu), (fun e => by cases e), hi.2, fun u hu => ?_⟩
    obtain ⟨j, hj, rfl⟩ := List.getElem_of_mem hu
    have hq : j / d.sz < l.length := Nat.div_lt_of_lt_mul (by rw [Nat.mul_comm, ← hi.1]; exact hj)
    have hk := hi.2 (j / d.sz) _ (List.getElem?_eq_getElem hq)
    refine d.K_one (Kd.FK_now hk) _ (List.mem_iff_getElem?.2 ⟨j % d.sz, ?_⟩)
    rw [List.getElem?_take, if_pos (Nat.mod_lt _ hs), List.getElem?_drop, Nat.mul_comm, Nat.div_add_mod, List.getElem?_eq_getElem hj]
theorem kk.open_ {W : World} {base sz e : Nat} {ok : Nat → Prop} {v : Value} {xs : List (List Value)} (h : Kd.R (Kd.raw sz) e W base ok v xs) (hp : 0 < xs.length) :
    ∃ g cap cur, v = .slice (some ⟨g, 0, none⟩) xs.length cap ∧ base ≤ g ∧ g < W.heap.size ∧ xs.length ≤ cap ∧ cap ≤ maxLen ∧ W.heap[g]? = some (.cells cur e (0, 0)) ∧ cur.size = cap * sz ∧ ∀ (j : Nat) (c : List Value), xs[j]? = some c → ∀ (i : Nat) (u : Value), c[i]? = some u → cur.toList[j * sz + i]? = some u := by
  obtain ⟨_, inner, ⟨hl, hn | ⟨g, cap, cur, hv, hb, hh, h1, h2, h3, h4⟩⟩, hr⟩ := h
  · omega
  · refine ⟨g, cap, cur, hv, hb, blk_lt hh, h1, h2, hh, h3, fun j c hc i u hu => ?_⟩
    have hm : (inner.drop (j * sz)).take sz = c := (hr.2 j c hc).1
    subst hm
    rw [List.getElem?_take] at hu
    split at hu
    · rw [List.getElem?_drop, ← h4, List.getElem?_take] at hu
      split at hu
      · exact hu
      · cases hu
    · cases hu
theorem kk.own {α : Type} {d : Kd α} {w W3 W4 : World} {g t : Nat} {l : List α} {olds rest : List Value} (hb3 : Below w.heap.size w W3) (hb4 : Below w.heap.size w W4) (hq : W4.heap[g]? = some (.cells (olds ++ rest).toArray t (0, 0))) (ho : olds.length = l.length * d.sz)
    (hf : ∀ (j : Nat) (x : α), l[j]? = some x → Kd.FK d W3 (fun k => k < w.heap.size) x ((olds.drop (j * d.sz)).take d.sz)) (hn : l.length ≤ 9223372036854775807) : Kd.F d W4 (fun k => k = g ∨ k < w.heap.size) (some ⟨g, 0, none⟩) l.length l := by
  refine nrow.F_block l (Kd.chunks d.sz l.length olds) hq (.inl rfl) (Kd.chunks_length _ _ _) ?_ ?_ hn
  · intro j x c hx hc
    have hj : j < l.length := (List.getElem?_eq_some_iff.1 hx).1
    obtain rfl := Kd.chunks_get hc
    refine ⟨Kd.FK_mono (Kd.FK_step (hf j x hx) (fun k hk _ => (hb4.block k hk).trans (hb3.block k hk).symm)) (fun k hk => .inr hk), ?_⟩
    rw [List.length_take, List.length_drop, ho]
    have : j * d.sz + d.sz ≤ l.length * d.sz := by rw [← Nat.succ_mul]; exact Nat.mul_le_mul_right _ hj
    omega
  · intro j c hc i u hu
    have hj : j < l.length := by have := (List.getElem?_eq_some_iff.1 hc).1; rwa [Kd.chunks_length] at this
    obtain rfl := Kd.chunks_get hc
    have hi : i < d.sz := by have := (List.getElem?_eq_some_iff.1 hu).1; rw [List.length_take] at this; omega
    rw [List.getElem?_take, if_pos hi, List.getElem?_drop] at hu
    have hlt := (List.getElem?_eq_some_iff.1 hu).1
    rw [List.getElem?_toArray, List.getElem?_append_left hlt]
    exact hu
/-- A block of so many cells. -/
def kk.Blk (W : World) (g t N : Nat) : Prop := ∃ cur, W.heap[g]? = some (.cells cur t (0, 0)) ∧ cur.size = N
theorem kk.Blk.set {W : World} {g t N : Nat} (h : kk.Blk W g t N) (j : Nat) (v : Value) : kk.Blk (W.setCell ⟨g, j, none⟩ v) g t N := by
  obtain ⟨cur, hc, hs⟩ := h
  exact ⟨cur.setIfInBounds j v, blk_put hc j v rfl, by simpa using hs⟩
theorem kk.Blk.cell {W : World} {g t N : Nat} (h : kk.Blk W g t N) (j : Nat) (hj : j < N) : ∃ v, W.cell? ⟨g, j, none⟩ = some v ∧ W.frozen? ⟨g, j, none⟩ = false := by
  obtain ⟨cur, hc, hs⟩ := h
  exact ⟨cur[j]'(by omega), (blk_cell hc j).trans (Array.getElem?_eq_getElem (by omega)), blk_frozen hc j⟩
theorem kk.Blk.below {W W1 : World} {g t N : Nat} (h : kk.Blk W g t N) (hb : Below W.heap.size W W1) : kk.Blk W1 g t N := by
  obtain ⟨cur, hc, hs⟩ := h
  exact ⟨cur, blk_below hc hb, hs⟩
theorem kk.Blk.grown {W W1 : World} {g t N : Nat} (h : kk.Blk W g t N) {row : Option Nat} (hg : W.grownBy W1 row) (hne : some g ≠ row) : kk.Blk W1 g t N := by
  obtain ⟨cur, hc, hs⟩ := h
  exact ⟨cur, (hg.block g (blk_lt hc) hne).trans hc, hs⟩
theorem kk.src {W : World} {A : Option Addr} {n sz : Nat} {olds : List Value} (h1 : olds.length = n * sz) (h2 : ∀ b, A = some b → ∀ j u, olds[j]? = some u → W.cell? (b.add j) = some u) (h3 : A = none → n = 0) : 0 < olds.length → ∃ a, A = some a ∧ ∀ j v, olds[j]? = some v → W.cell? (a.add j) = some v := by
  intro hp
  cases A with
  | none => rw [h3 rfl, Nat.zero_mul] at h1; omega
  | some b => exact ⟨b, rfl, h2 b rfl⟩
theorem kk.cut (t g cap n m s : Nat) (hu : Try.prog.underlying t = some (.slice (Try.prog.elem t))) (hs : ∀ W : World, (sizeOf (Try.prog.elem t)).run Try.prog W = .ok s W) (hm : m ≤ n) (hn : n ≤ cap) : ∀ W : World, (Instr.slice t (.slice (some ⟨g, 0, none⟩) n cap) none (some (.int .i64 (m : Int))) none).run Try.prog W = .ok (.slice (some ⟨g, 0, none⟩) m cap) W := by
  intro W
  rw [run_slice_h W t (some ⟨g, 0, none⟩) n cap hu .i64 (m : Int) (by omega) (by omega), hs]
  simp [sliced, Result.andThen, Addr.add]
theorem kk.rest {olds cur zs : List Value} {l sz : Nat} (ho : olds.length = l * sz) (hz : ∀ (i : Nat) (u : Value), zs[i]? = some u → cur[l * sz + i]? = some u) : ∀ (i : Nat) (u : Value), zs[i]? = some u → (olds ++ cur.drop olds.length).toArray[l * sz + i]? = some u := by
  intro i u hu
  rw [List.getElem?_toArray, List.getElem?_append_right (by omega), List.getElem?_drop, show olds.length + (l * sz + i - olds.length) = l * sz + i by omega]
  exact hz i u hu
/-- A row that is read now, and what its elements lead to, with the blocks that this lies in. -/
def kk.E {α : Type} (d : Kd α) (W : World) (ok : Nat → Prop) (A : Option Addr) (n : Nat) (xs : List α) : Prop := ReadsRow (fun x c => Kd.FK d W ok x c) d.sz W A n xs
theorem kk.E.below {α : Type} {d : Kd α} {W W1 : World} {ok : Nat → Prop} {A : Option Addr} {n : Nat} {xs : List α} (h : kk.E d W ok A n xs) (hb : Below W.heap.size W W1) : kk.E d W1 ok A n xs := ReadsRow.imp_ h hb (fun _ _ hp => Kd.FK_below hp hb)
theorem kk.E.old {α : Type} {d : Kd α} {W W1 : World} {ok : Nat → Prop} {A : Option Addr} {n : Nat} {xs : List α} (h : kk.E d W ok A n xs) (hb : Below W.heap.size W W1) : kk.E d W1 (fun k => ok k ∧ k < W.heap.size) A n xs := ReadsRow.imp_ h hb (fun _ _ hp => Kd.FK_below (Kd.FK_bound hp) hb)
theorem kk.E.mono {α : Type} {d : Kd α} {W : World} {ok ok' : Nat → Prop} {A : Option Addr} {n : Nat} {xs : List α} (h : kk.E d W ok A n xs) (hk : ∀ k, ok k → ok' k) : kk.E d W ok' A n xs := ReadsRow.imp_ h (Below.refl _ _) (fun _ _ hp => Kd.FK_mono hp hk)
theorem kk.E.ofF {α : Type} {d : Kd α} {W : World} {ok : Nat → Prop} {A : Option Addr} {n : Nat} {xs : List α} (h : Kd.F d W ok A n xs) : kk.E d W ok A n xs := Kd.F_rows h
theorem kk.E.ofN {α : Type} {d : Kd α} {e : Nat} {W : World} {base : Nat} {ok : Nat → Prop} {A : Option Addr} {n c : Nat} {xs : List α} (h : Kd.N d e W base ok (.slice A n c) xs) : kk.E d W (fun k => ok k ∧ some k ≠ (Value.slice A n c).ownBlock) A xs.length xs := by
  obtain ⟨_, rows, hl, hR, hf⟩ := h
  obtain ⟨hn, _, hC⟩ := Kd.R_reads' hR
  obtain ⟨h1, h2, h3⟩ := hC
  refine ⟨rfl, by omega, fun hp => ?_⟩
  obtain ⟨ad, hA, hc⟩ := h3 (by omega)
  refine ⟨ad, hA, fun j x hx => ?_⟩
  have hj : j < xs.length := (List.getElem?_eq_some_iff.1 hx).1
  obtain ⟨c', hs, ⟨rfl, _, _⟩, hcell⟩ := hc j (rows[j]'(by omega)) (List.getElem?_eq_getElem (by omega))
  exact ⟨_, hs, hf j x _ hx (List.getElem?_eq_getElem (by omega)), hcell⟩
theorem kk.N_append_rows {α : Type} {P : Program} {ops : Array Oper} {rest : List Oper} {o : Oper} {a : Act} {Q : Exit → Act → World → Prop} (d : Kd α) {w0 W : World} (base : Nat) (hgd : o.guard = none) (s x : Operand) (t e : TypeId) (z : Value) (bytes : Nat)
    (ho : o.op = .call { callee := .builtin .append, args := #[s, x], argTypes := #[t, t] })
    (ht : P.underlying t = some (.slice e)) (hinfo : (P.info? e).map (fun i => (i.zero, i.size, i.bytes)) = some (some z, d.sz, bytes)) (hz : z.cells.size = d.sz) (hs0 : 0 < d.sz) (hb0 : 0 < bytes)
    (v : Value) (xs ys : List α) (A : Option Addr) (m c : Nat) (ok okp : Nat → Prop) (hs : a.eval s = v) (hx : a.eval x = .slice A m c)
    (HO : Kd.N d e W base ok v xs) (HR : kk.E d W okp A m ys) (hokp : ∀ k, okp k → ok k ∧ some k ≠ v.ownBlock) (hfresh : ∀ k, W.heap.size ≤ k → ok k)
    (HB : Below base w0 W) (hbase : base ≤ W.heap.size) (hl : (xs.length + m) * bytes ≤ 140737488355328)
    (h : ∀ v1 w1, Kd.N d e w1 base ok v1 (xs ++ ys) → Below base w0 w1 → W.grownBy w1 v.ownBlock → (v1.ownBlock = v.ownBlock ∨ ∃ b, v1.ownBlock = some b ∧ W.heap.size ≤ b) → wpList P ops Q rest (a.put o.dst v1) w1) :
    wpList P ops Q (o :: rest) a W := by
  obtain ⟨h0, rows, hlr, hR, hf⟩ := HO
  obtain ⟨news, hnl, hnr, hnf⟩ := Kd.reads_raw HR (fun y c hk => ⟨d.K_len (Kd.FK_now hk), d.K_one (Kd.FK_now hk)⟩)
  refine Kd.R_append_rows (Kd.raw d.sz) base hgd s x t e z bytes ho ht hinfo hz hs0 hb0 v rows news A m c (fun _ => True) (fun _ => False) hs hx (Kd.raw_any hR) hnr (fun _ _ hk => hk) (fun _ hk => hk.elim) (fun _ _ => trivial) HB hbase (by rw [hlr]; exact hl) ?_
  intro v1 w1 hr hb hg hat
  exact h v1 w1 (Kd.N_appended h0 hlr hf hnl hnf hokp hfresh hr hg hat) hb hg hat
set_option maxHeartbeats 8000000 in
set_option maxRecDepth 100000 in
theorem api_Person.new (P0_ Q0_ : Nat → Prop) (A0 : Option Addr) (c0 : Nat) (l0 : List (S39)) (r : List (S39)) (w : World) (hs0 : Kd.V k39 39 w w.heap.size (fun k_ => P0_ k_) (.slice A0 l0.length c0) l0) (hE : kk.E k39 w (fun k_ => Q0_ k_) A0 l0.length l0) (h : api_Person.f l0 = some r) :
    Calls Try.prog 29 #[.slice A0 l0.length c0] w fun e w' => ∃ v0_ : Value, e = .returned (v0_) ∧ Kd.N k39 39 w' w.heap.size (fun k_ => (Q0_ k_ ∨ w.heap.size ≤ k_)) v0_ r ∧ Below w.heap.size w w' := by
  rcases A0 with _ | x0
  · have hl0 : l0 = [] := by
      rcases l0 with _ | ⟨y, ys⟩
      · rfl
      · obtain ⟨ad, had, _⟩ := (Kd.V_reads' hs0).2.2.2.2 (by simp)
        cases had
    subst hl0
    have hr : r = [] := by
      have h2 := h
      simp [api_Person.f] at h2
      exact h2
    subst hr
    clear h hs0
    have ke := fun (w : World) (a : Option Addr) (n c n' c' : Nat) => Lib.run_eql_slice_nil (P := Try.prog) w 25 39 a n c n' c' Try.underlying25
    go_enter Try.func29, Try.ntmps29
    go_wp2
    go_ret
    exact ⟨_, rfl, Kd.N_nil _ _ _ _ _, Below.refl _ _⟩
  have ke := fun (w : World) (n c n' c' : Nat) => Lib.run_eql_slice_nil (P := Try.prog) w 25 39 (some x0) n c n' c' Try.underlying25
  have HE := Aside0.mk hE
  clear hE
  have HO0 := Aside0.mk (show Kd.V k39 39 w w.heap.size (fun k_ => (P0_ k_ ∨ w.heap.size ≤ k_)) (.slice (some x0) l0.length c0) l0 from Kd.V_mono hs0 (fun k_ hk => .inl hk))
  have HB := Aside0.mk (Below.refl w.heap.size w)
  have H : ((some (([] : List (S39)) : List (S39))).bind fun y130 => (if y130.length + l0.length < 1954687338268 then (some (y130 ++ l0)) else (none))) = some r := h
  clear h
  obtain ⟨y130, hy130⟩ : ∃ y_ : List (S39), y_ = (([] : List (S39))) := ⟨_, rfl⟩
  replace H : (if y130.length + l0.length < 1954687338268 then (some (y130 ++ l0)) else (none)) = some r := by first | (rw [hy130]; with_reducible exact H) | (have H2_ := (Option.bind_some _ _).symm.trans H; rw [hy130]; with_reducible exact H2_) | (have H2_ := (Option.bind_some _ _).symm.trans H; with_reducible exact H2_) | with_reducible exact H | (rw [hy130]; exact H) | exact H
  have Ny130 := Aside0.mk hy130
  clear hy130
  by_cases c2 : y130.length + l0.length < 1954687338268
  · rw [if_pos c2] at H
    have LMc2 := Aside0.mk c2
    clear c2
    obtain ⟨y133, hy133⟩ : ∃ y_ : List (S39), y_ = (y130 ++ l0) := ⟨_, rfl⟩
    replace H : (some y133) = some r := by first | (rw [hy133]; with_reducible exact H) | (have H2_ := (Option.bind_some _ _).symm.trans H; rw [hy133]; with_reducible exact H2_) | (have H2_ := (Option.bind_some _ _).symm.trans H; with_reducible exact H2_) | with_reducible exact H | (rw [hy133]; exact H) | exact H
    have Ny133 := Aside0.mk hy133
    clear hy133
    obtain rfl := Option.some.inj H
    go_enter Try.func29, Try.ntmps29
    go_wp2_with (first | ((with_reducible refine gate_dst (N := 5) rfl ?_); refine Kd.N_lit k39 _ 39 ?hg (N' := 5) ?hd (xs := ([] : List (S39))) (inner := []) (ok := (fun k_ => (Q0_ k_ ∨ w.heap.size ≤ k_))) (okp := (fun k_ => (Q0_ k_ ∨ w.heap.size ≤ k_))) ?hr ?hp (fun _ hk => hk) ((show ∀ k_, w.heap.size ≤ k_ → (fun k_ => (Q0_ k_ ∨ w.heap.size ≤ k_)) k_ from fun k_ hk => (.inr (Nat.le_trans (below_size (by repeat (first | (with_reducible first | exact HB.out | apply below_alloc | apply pw_below_drewN | apply below_drew1) | exact HB.out))) hk))) _ (Nat.le_refl _)) (Below.refl _ _) (Nat.le_refl _) (by simp) ?_; (case hd => rfl); (case hg => rfl); (case hr => first | (go_simp; done) | (go_simp; rfl)); (case hp => exact (Reps.none _ _)); intro v131 w3 ho4 hb hg_ hnew_; clear hg_ hnew_; (first | rw [← Ny130.out] at ho4 | (simp only [Int.reduceToNat] at ho4; rw [← Ny130.out] at ho4)); have n0_ := Aside0.mk (Kd.V_elder' (by (with_reducible repeat (first | apply Kd.V_alloc | apply Kd.V_drewN | apply Kd.V_drew)); exact HO0.out) (Kd.N_base ho4) hb); have n1_ := Aside0.mk (Kd.N_lower ho4 (below_size (by repeat (first | (with_reducible first | exact HB.out | apply below_alloc | apply pw_below_drewN | apply below_drew1) | exact HB.out)))); have n2_ := Aside0.mk (below_step (by repeat (first | (with_reducible first | exact HB.out | apply below_alloc | apply pw_below_drewN | apply below_drew1) | exact HB.out)) hb); clear HO0; clear HB; have HO0 := n0_; have HO132 := n1_; have HB := n2_; clear n0_ n1_ n2_; clear hb ho4) | ((with_reducible refine gate_builtin (b := .append) (xs := #[.tmp 5, .tmp 6]) rfl ?_); at_builtin; refine kk.N_append_rows k39 (w0 := w) w.heap.size rfl (.tmp 5) (.tmp 6) 25 39 (.agg #[(.int .u32 0), (.int .u32 0), (.int .u32 0), (.slice none 0 0), (.slice none 0 0), (.bool false)]) 72 rfl Try.underlying25 info39 rfl (by decide) (by omega) v131 y130 l0 _ _ _ (fun k_ => (Q0_ k_ ∨ w.heap.size ≤ k_)) (fun k_ => ((fun k_ => (Q0_ k_ ∨ w.heap.size ≤ k_))) k_ ∧ some k_ ≠ (v131 : Value).ownBlock) rfl rfl ?aO ?aR (fun _ hk => hk) ?aF ?aB ?aS ?aL ?_; (case aR => exact kk.E.mono (kk.E.old HE.out (by repeat (first | (with_reducible first | exact HB.out | apply below_alloc | apply pw_below_drewN | apply below_drew1) | exact HB.out))) (fun k_ hk => ⟨.inl hk.1, fun e_ => Nat.lt_irrefl _ (Nat.lt_of_lt_of_le hk.2 (Kd.N_base HO132.out k_ e_.symm))⟩)); (case aB => exact (by repeat (first | (with_reducible first | exact HB.out | apply below_alloc | apply pw_below_drewN | apply below_drew1) | exact HB.out))); (case aF => exact (fun k_ hk => (.inr (Nat.le_trans (below_size (by repeat (first | (with_reducible first | exact HB.out | apply below_alloc | apply pw_below_drewN | apply below_drew1) | exact HB.out))) hk)))); (case aO => exact (by (with_reducible repeat (first | apply Kd.N_alloc | apply Kd.N_drewN | apply Kd.N_drew)); exact HO132.out)); (case aS => exact (below_size (by repeat (first | (with_reducible first | exact HB.out | apply below_alloc | apply pw_below_drewN | apply below_drew1) | exact HB.out)))); (case aL => have := LMc2.out; omega); intro v134 w5 ho hb hg hat; rw [← Ny133.out] at ho; have n0_ := Aside0.mk (Kd.V_afterv (ok := (fun k_ => (P0_ k_ ∨ w.heap.size ≤ k_))) (by (with_reducible repeat (first | apply Kd.V_alloc | apply Kd.V_drewN | apply Kd.V_drew)); exact HO0.out) hg hat); have n1_ := Aside0.mk (hb); have n2_ := Aside0.mk (ho); clear HO0; clear HB; clear HO132; have HO0 := n0_; have HB := n1_; have HO135 := n2_; clear n0_ n1_ n2_; clear ho hb hg hat))
    go_ret
    exact ⟨_, by first | rfl | (simp [errW_none, errW_some] <;> rfl) | (simp [*, errW_none, errW_some] <;> rfl), by (with_reducible repeat (first | apply Kd.N_alloc | apply Kd.N_drewN | apply Kd.N_drew)); exact HO135.out, by repeat (first | (with_reducible first | exact HB.out | apply below_alloc | apply pw_below_drewN | apply below_drew1) | exact HB.out)⟩
  · rw [if_neg c2] at H
    exact absurd H (by simp)
set_option maxHeartbeats 8000000 in
set_option maxRecDepth 100000 in
theorem people_Set.new (P0_ Q0_ : Nat → Prop) (A0 : Option Addr) (c0 : Nat) (l0 : List (S39)) (a1_0 : Int) (a1_1 : Int) (a1_2 : Int) (P1_3_ : Nat → Prop) (A1_3 : Option Addr) (c1_3 : Nat) (l1_3 : List Int) (P1_4_ : Nat → Prop) (A1_4 : Option Addr) (c1_4 : Nat) (l1_4 : List (S66)) (a1_5 : Bool) (r1 : List (S39)) (r2 : Int) (w : World) (hs0 : Kd.V k39 39 w w.heap.size (fun k_ => P0_ k_) (.slice A0 l0.length c0) l0) (hs1_3 : Kd.V (Kd.int .u32) 36 w w.heap.size (fun k_ => P1_3_ k_) (.slice A1_3 l1_3.length c1_3) l1_3) (hs1_4 : Kd.V k66 66 w w.heap.size (fun k_ => P1_4_ k_) (.slice A1_4 l1_4.length c1_4) l1_4) (hE : kk.E k39 w (fun k_ => Q0_ k_) A0 l0.length l0) (h : people_Set.f l0 a1_0 a1_1 a1_2 l1_3 l1_4 a1_5 = some (r1, r2)) :
    Calls Try.prog 18 #[.slice A0 l0.length c0, .agg #[.int .u32 a1_0, .int .u32 a1_1, .int .u32 a1_2, .slice A1_3 l1_3.length c1_3, .slice A1_4 l1_4.length c1_4, .bool a1_5]] w fun e w' => ∃ v0_ : Value, e = .returned (.tuple #[v0_, .int .i64 r2]) ∧ (r2 = 0 → Kd.V k39 39 w' w.heap.size (fun k_ => ((Q0_ k_ ∨ P1_3_ k_ ∨ P1_4_ k_) ∨ w.heap.size ≤ k_)) v0_ r1) ∧ Below w.heap.size w w' := by
  have hu39 := Try.underlying39
  have HE := Aside0.mk hE
  clear hE
  have HO0 := Aside0.mk (show Kd.V k39 39 w w.heap.size (fun k_ => ((P0_ k_ ∨ P1_3_ k_ ∨ P1_4_ k_) ∨ w.heap.size ≤ k_)) (.slice A0 l0.length c0) l0 from Kd.V_mono hs0 (fun k_ hk => .inl (.inl hk)))
  have HO1_3 := Aside0.mk (show Kd.V (Kd.int .u32) 36 w w.heap.size (fun k_ => ((Q0_ k_ ∨ P1_3_ k_ ∨ P1_4_ k_) ∨ w.heap.size ≤ k_)) (.slice A1_3 l1_3.length c1_3) l1_3 from Kd.V_mono hs1_3 (fun k_ hk => .inl (.inr (.inl hk))))
  have HO1_4 := Aside0.mk (show Kd.V k66 66 w w.heap.size (fun k_ => ((Q0_ k_ ∨ P1_3_ k_ ∨ P1_4_ k_) ∨ w.heap.size ≤ k_)) (.slice A1_4 l1_4.length c1_4) l1_4 from Kd.V_mono hs1_4 (fun k_ hk => .inl (.inr (.inr hk))))
  have HB := Aside0.mk (Below.refl w.heap.size w)
  have H : ((people_in.f l0 a1_0).bind fun t137 => (if t137 = true then ((api_Person.f l0).bind fun t138 => (if 0 ≤ a1_0 then (if a1_0 < (t138.length : Int) then (some ((t138.set (a1_0 : Int).toNat (⟨a1_0, a1_1, a1_2, l1_3, l1_4, a1_5⟩ : S39)), 0)) else (none)) else (none))) else (some (l0, 1)))) = some (r1, r2) := h
  clear h
  replace H := Option.bind_eq_some_iff.mp H
  obtain ⟨t137, A30, H⟩ := H
  replace H : (if t137 = true then ((api_Person.f l0).bind fun t138 => (if 0 ≤ a1_0 then (if a1_0 < (t138.length : Int) then (some ((t138.set (a1_0 : Int).toNat (⟨a1_0, a1_1, a1_2, l1_3, l1_4, a1_5⟩ : S39)), 0)) else (none)) else (none))) else (some (l0, 1))) = some (r1, r2) := H
  have A3 := Aside0.mk A30
  clear A30
  by_cases c4 : t137 = true
  · subst c4
    have H1 : ((api_Person.f l0).bind fun t138 => (if 0 ≤ a1_0 then (if a1_0 < (t138.length : Int) then (some ((t138.set (a1_0 : Int).toNat (⟨a1_0, a1_1, a1_2, l1_3, l1_4, a1_5⟩ : S39)), 0)) else (none)) else (none))) = some (r1, r2) := by rw [if_pos rfl] at H; exact H
    clear H
    have H := H1
    clear H1
    replace H := Option.bind_eq_some_iff.mp H
    obtain ⟨t138, A50, H⟩ := H
    replace H : (if 0 ≤ a1_0 then (if a1_0 < (t138.length : Int) then (some ((t138.set (a1_0 : Int).toNat (⟨a1_0, a1_1, a1_2, l1_3, l1_4, a1_5⟩ : S39)), 0)) else (none)) else (none)) = some (r1, r2) := H
    have A5 := Aside0.mk A50
    clear A50
    by_cases c6 : 0 ≤ a1_0
    · rw [if_pos c6] at H
      have c6b0 : decide (0 ≤ a1_0) = true := decide_eq_true c6
      clear c6
      by_cases c7 : a1_0 < (t138.length : Int)
      · rw [if_pos c7] at H
        have c7b0 : decide (a1_0 < (t138.length : Int)) = true := decide_eq_true c7
        clear c7
        obtain ⟨y141, hy141⟩ : ∃ y_ : List (S39), y_ = (t138.set (a1_0 : Int).toNat (⟨a1_0, a1_1, a1_2, l1_3, l1_4, a1_5⟩ : S39)) := ⟨_, rfl⟩
        replace H : (some (y141, 0)) = some (r1, r2) := by first | (rw [hy141]; with_reducible exact H) | (have H2_ := (Option.bind_some _ _).symm.trans H; rw [hy141]; with_reducible exact H2_) | (have H2_ := (Option.bind_some _ _).symm.trans H; with_reducible exact H2_) | with_reducible exact H | (rw [hy141]; exact H) | exact H
        have Ny141 := Aside0.mk hy141
        clear hy141
        simp only [Option.some.injEq, Prod.mk.injEq] at H
        obtain ⟨rfl, rfl⟩ := H
        go_enter Try.func18, Try.ntmps18
        go_wp2_with (first | ((with_reducible refine gate_dst (N := 3) rfl ?_); refine box_event ?hg (N := 3) ?hd (cs := #[.int .u32 a1_0, .int .u32 a1_1, .int .u32 a1_2, .slice A1_3 l1_3.length c1_3, .slice A1_4 l1_4.length c1_4, .bool a1_5]) (t := 39) ?hr ?_; (case hd => rfl); (case hg => rfl); (case hr => first | (go_simp; done) | (go_simp; rfl)); intro gb136 hg w9 hbox hb; have n0_ := Aside0.mk (ve_ HO0.out gb136 hg hb); have n1_ := Aside0.mk (ve_ HO1_3.out gb136 hg hb); have n2_ := Aside0.mk (ve_ HO1_4.out gb136 hg hb); have n3_ := Aside0.mk (bs_ hb); have n4_ := Aside0.mk (hbox); have n6_ := Aside0.mk ((ge_ hg : w.heap.size ≤ gb136)); clear HO0 HO1_3 HO1_4 HB; have HO0 := n0_; have HO1_3 := n1_; have HO1_4 := n2_; have HB := n3_; have BK136 := n4_; have GE136 := n6_; clear n0_ n1_ n2_ n3_ n4_ n6_; clear hb hbox hg; have ⟨hcz10_0, hcz10_1, hcz10_2, hcz10_3, hcz10_4, hcz10_5⟩ := cz6_ BK136.out; have ⟨hfz10_0, hfz10_1, hfz10_2, hfz10_3, hfz10_4, hfz10_5⟩ := fz6_ BK136.out) | ((with_reducible refine gate_callee (f := 28) rfl ?_); refine goesL_ (some 10) rfl rfl Try.func28 (by kernel_rfl) rfl #[.slice A0 l0.length c0, .int .u32 a1_0] rfl (by (try simp only [List.map_toArray, List.map_cons, List.map_nil]); first | done | rfl | (simp only [List.length_drop, List.length_take]; rfl)) ?_; (with_reducible refine (people_in.calls _ _ l0 a1_0 true _ ?side1 ?side2 A3.out).mono ?_); (case side1 => repeat (first | exact (Kd.V_reads' HO0.out).2.2 | (with_reducible refine Kd.C_alloc ?_ _) | (with_reducible refine Kd.C_drewN ?_ _) | (with_reducible refine Kd.C_drew ?_))); (case side2 => exact (Kd.V_reads' HO0.out).2.1); rintro e w' ⟨rfl, ⟨nd, rfl⟩⟩; refine ⟨_, rfl, ?_⟩; (try (rw [drewN_self w9]; generalize hq_ : World.drewN w9 _ = w9; have n0_ : Aside0 (Kd.V k39 39 w9 w.heap.size (fun k_ => ((Q0_ k_ ∨ P1_3_ k_ ∨ P1_4_ k_) ∨ w.heap.size ≤ k_) ∧ k_ ≠ gb136) (.slice A0 l0.length c0) l0) := ⟨by rw [← hq_]; exact (by (with_reducible repeat (first | apply Kd.V_alloc | apply Kd.V_drewN | apply Kd.V_drew)); exact HO0.out)⟩; have n1_ : Aside0 (Kd.V (Kd.int .u32) 36 w9 w.heap.size (fun k_ => ((Q0_ k_ ∨ P1_3_ k_ ∨ P1_4_ k_) ∨ w.heap.size ≤ k_) ∧ k_ ≠ gb136) (.slice A1_3 l1_3.length c1_3) l1_3) := ⟨by rw [← hq_]; exact (by (with_reducible repeat (first | apply Kd.V_alloc | apply Kd.V_drewN | apply Kd.V_drew)); exact HO1_3.out)⟩; have n2_ : Aside0 (Kd.V k66 66 w9 w.heap.size (fun k_ => ((Q0_ k_ ∨ P1_3_ k_ ∨ P1_4_ k_) ∨ w.heap.size ≤ k_) ∧ k_ ≠ gb136) (.slice A1_4 l1_4.length c1_4) l1_4) := ⟨by rw [← hq_]; exact (by (with_reducible repeat (first | apply Kd.V_alloc | apply Kd.V_drewN | apply Kd.V_drew)); exact HO1_4.out)⟩; have n3_ : Aside0 (w9.heap[gb136]? = some (.cells #[.int .u32 a1_0, .int .u32 a1_1, .int .u32 a1_2, .slice A1_3 l1_3.length c1_3, .slice A1_4 l1_4.length c1_4, .bool a1_5] 39 (0, 0))) := ⟨by rw [← hq_]; exact (by (with_reducible repeat (first | refine blk_drewN ?_ _ | refine blk_drew ?_ | refine blk_alloc ?_ _)); exact BK136.out)⟩; have n4_ : Aside0 (Below w.heap.size w w9) := ⟨by rw [← hq_]; exact (by repeat (first | (with_reducible first | exact HB.out | apply below_alloc | apply pw_below_drewN | apply below_drew1 | refine below_set ?_ GE136.out) | exact HB.out))⟩; clear HO0 HO1_3 HO1_4 BK136 HB hq_; have HO0 := n0_; have HO1_3 := n1_; have HO1_4 := n2_; have BK136 := n3_; have HB := n4_; clear n0_ n1_ n2_ n3_ n4_))) | ((with_reducible refine gate_callee (f := 29) rfl ?_); refine goesL_ (some 14) rfl rfl Try.func29 (by kernel_rfl) rfl #[.slice A0 l0.length c0] rfl (by (try simp only [List.map_toArray, List.map_cons, List.map_nil]); first | done | rfl | (simp only [List.length_drop, List.length_take]; rfl)) ?_; (with_reducible refine (api_Person.new (fun k_ => (((P0_ k_ ∨ P1_3_ k_ ∨ P1_4_ k_) ∨ w.heap.size ≤ k_) ∧ k_ ≠ gb136)) (fun k_ => (((Q0_ k_ ∨ P1_3_ k_ ∨ P1_4_ k_) ∨ w.heap.size ≤ k_) ∧ k_ ≠ gb136)) _ _ l0 t138 _ ?side1 ?sideE A5.out).mono ?_); (case side1 => exact HO0.out); (case sideE => exact kk.E.mono (kk.E.old HE.out (by repeat (first | (with_reducible first | exact HB.out | apply below_alloc | apply pw_below_drewN | apply below_drew1 | refine below_set ?_ GE136.out) | exact HB.out))) (fun k_ hk => ⟨.inl (.inl hk.1), fun e_ => Nat.lt_irrefl _ (Nat.lt_of_lt_of_le hk.2 (e_ ▸ GE136.out))⟩)); rintro e w11 ⟨v139, rfl, ho0, hb⟩; refine ⟨_, rfl, ?_⟩; have n1_ := Aside0.mk (vf_ HO1_3.out (Kd.N_base ho0) hb); have n2_ := Aside0.mk (vf_ HO1_4.out (Kd.N_base ho0) hb); have n3_ := Aside0.mk (Kd.N_lower (Kd.N_mono (ok' := fun k_ => ((Q0_ k_ ∨ P1_3_ k_ ∨ P1_4_ k_) ∨ w.heap.size ≤ k_) ∧ k_ ≠ gb136) ho0 (fun k_ hk_ => ⟨Or.elim hk_ (fun hs_ => hs_.1) (fun hn_ => (.inr (Nat.le_trans (below_size (by repeat (first | (with_reducible first | exact HB.out | apply below_alloc | apply pw_below_drewN | apply below_drew1 | refine below_set ?_ GE136.out) | exact HB.out))) hn_))), Or.elim hk_ (fun hs_ => hs_.2) (fun hn_ => (fb_ BK136.out k_ hn_))⟩)) (below_size (by repeat (first | (with_reducible first | exact HB.out | apply below_alloc | apply pw_below_drewN | apply below_drew1 | refine below_set ?_ GE136.out) | exact HB.out)))); have n4_ := Aside0.mk (bb_ BK136.out hb); have n5_ := Aside0.mk (bs_ hb); clear HO0 HO1_3 HO1_4 BK136 HB; have HO1_3 := n1_; have HO1_4 := n2_; have HO140 := n3_; have BK136 := n4_; have HB := n5_; clear n1_ n2_ n3_ n4_ n5_; (try clear hb); (try clear hb2); (try clear hk); (try clear hi); (try clear ho0); have ⟨hcz12_0, hcz12_1, hcz12_2, hcz12_3, hcz12_4, hcz12_5⟩ := cz6_ BK136.out; have ⟨hfz12_0, hfz12_1, hfz12_2, hfz12_3, hfz12_4, hfz12_5⟩ := fz6_ BK136.out; have p8 : 0 ≤ (a1_0 : Int) := of_decide_eq_true (by first | (with_reducible assumption) | assumption); have q8 : (a1_0 : Int) < ((t138.length : Int) : Int) := of_decide_eq_true (by first | (with_reducible assumption) | assumption); obtain ⟨go8, co8, eo8, gb8, gl8, cl8, HG8⟩ := Kd.N_form HO140.out (by omega); (first | cases eo8 | (injection eo8 with ea_ en_ ec_; (first | subst ea_ | (injection ea_ with ea_; subst ea_)); subst ec_; clear en_)); have GB8 := Aside0.mk gb8; have GG8 := Aside0.mk HG8; clear gb8 gl8 HG8; obtain ⟨ce8, hcl8, hM8, hcc8, hfr8⟩ := Kd.N_elem HO140.out z39 (a1_0 : Int) p8 q8; obtain ⟨ua8_3, uc8_3, ua8_4, uc8_4, rfl, ul8_3, ge8_3, ul8_4, ge8_4⟩ := k39_openF hM8; have hx8_0 : w11.cell? ⟨go8, (a1_0 : Int).toNat * 6, none⟩ = some (.int .u32 ((rd_T39 t138 a1_0).f0)) := hcc8 0 _ rfl; have hx8_1 : w11.cell? ⟨go8, (a1_0 : Int).toNat * 6 + 1, none⟩ = some (.int .u32 ((rd_T39 t138 a1_0).f1)) := hcc8 1 _ rfl; have hx8_2 : w11.cell? ⟨go8, (a1_0 : Int).toNat * 6 + 2, none⟩ = some (.int .u32 ((rd_T39 t138 a1_0).f2)) := hcc8 2 _ rfl; have hx8_3 : w11.cell? ⟨go8, (a1_0 : Int).toNat * 6 + 3, none⟩ = some (.slice ua8_3 ((rd_T39 t138 a1_0).f3).length uc8_3) := hcc8 3 _ rfl; have hx8_4 : w11.cell? ⟨go8, (a1_0 : Int).toNat * 6 + 4, none⟩ = some (.slice ua8_4 ((rd_T39 t138 a1_0).f4).length uc8_4) := hcc8 4 _ rfl; have hx8_5 : w11.cell? ⟨go8, (a1_0 : Int).toNat * 6 + 5, none⟩ = some (.bool ((rd_T39 t138 a1_0).f5)) := hcc8 5 _ rfl; have hf8_0 : w11.frozen? ⟨go8, (a1_0 : Int).toNat * 6, none⟩ = false := hfr8 0; have hf8_1 : w11.frozen? ⟨go8, (a1_0 : Int).toNat * 6 + 1, none⟩ = false := hfr8 1; have hf8_2 : w11.frozen? ⟨go8, (a1_0 : Int).toNat * 6 + 2, none⟩ = false := hfr8 2; have hf8_3 : w11.frozen? ⟨go8, (a1_0 : Int).toNat * 6 + 3, none⟩ = false := hfr8 3; have hf8_4 : w11.frozen? ⟨go8, (a1_0 : Int).toNat * 6 + 4, none⟩ = false := hfr8 4; have hf8_5 : w11.frozen? ⟨go8, (a1_0 : Int).toNat * 6 + 5, none⟩ = false := hfr8 5; clear hcl8 hcc8 hfr8 hM8; replace p8 := eq_true p8; replace q8 := eq_true q8; have HX13 := Aside0.mk (show Kd.N k39 39 w11 w.heap.size (fun k_ => ((Q0_ k_ ∨ P1_3_ k_ ∨ P1_4_ k_) ∨ w.heap.size ≤ k_) ∧ k_ ≠ gb136) (.slice (some ⟨go8, 0, none⟩) t138.length co8) t138 from (by (with_reducible repeat (first | apply Kd.N_alloc | apply Kd.N_drewN | apply Kd.N_drew)); exact HO140.out)); obtain ⟨ce13, hcl13, hM13, hcc13, hfr13⟩ := Kd.N_elem HX13.out z39 (a1_0 : Int) (of_decide_eq_true (by first | (with_reducible assumption) | assumption)) (by have h_ : (a1_0 : Int) < ((t138.length : Int) : Int) := of_decide_eq_true (by first | (with_reducible assumption) | assumption); first | exact h_ | (have e_ := (Kd.N_reads' HO140.out).1; omega) | simpa using h_); obtain ⟨ua13_3, uc13_3, ua13_4, uc13_4, rfl, ul13_3, ge13_3, ul13_4, ge13_4⟩ := k39_openF hM13; have HP13 := Kd.N_seg HX13.out (a1_0 : Int) (of_decide_eq_true (by first | (with_reducible assumption) | assumption)) (by have h_ : (a1_0 : Int) < ((t138.length : Int) : Int) := of_decide_eq_true (by first | (with_reducible assumption) | assumption); first | exact h_ | (have e_ := (Kd.N_reads' HO140.out).1; omega) | simpa using h_) (seg := [.int .u32 a1_0, .int .u32 a1_1, .int .u32 a1_2, .slice A1_3 l1_3.length c1_3, .slice A1_4 l1_4.length c1_4, .bool a1_5]) (j := 0) hcl13 hcc13 (show 6 ≤ 6 from by decide) (x' := (⟨a1_0, a1_1, a1_2, l1_3, l1_4, a1_5⟩ : S39)) (k39_mkF _ _ (⟨a1_0, a1_1, a1_2, l1_3, l1_4, a1_5⟩ : S39) (Kd.V_reads' (Kd.V_mono (ok' := (fun k_ => ((fun k_ => ((Q0_ k_ ∨ P1_3_ k_ ∨ P1_4_ k_) ∨ w.heap.size ≤ k_) ∧ k_ ≠ gb136)) k_ ∧ k_ ≠ go8)) (HO1_3.out) (fun k_ hk => ⟨⟨hk.1.1, hk.1.2⟩, fun e_ => (hk.2) (by rw [e_]; rfl)⟩))).2.1 (Kd.V_F (Kd.V_mono (ok' := (fun k_ => ((fun k_ => ((Q0_ k_ ∨ P1_3_ k_ ∨ P1_4_ k_) ∨ w.heap.size ≤ k_) ∧ k_ ≠ gb136)) k_ ∧ k_ ≠ go8)) (HO1_3.out) (fun k_ hk => ⟨⟨hk.1.1, hk.1.2⟩, fun e_ => (hk.2) (by rw [e_]; rfl)⟩))) (Kd.V_reads' (Kd.V_mono (ok' := (fun k_ => ((fun k_ => ((Q0_ k_ ∨ P1_3_ k_ ∨ P1_4_ k_) ∨ w.heap.size ≤ k_) ∧ k_ ≠ gb136)) k_ ∧ k_ ≠ go8)) (HO1_4.out) (fun k_ hk => ⟨⟨hk.1.1, hk.1.2⟩, fun e_ => (hk.2) (by rw [e_]; rfl)⟩))).2.1 (Kd.V_F (Kd.V_mono (ok' := (fun k_ => ((fun k_ => ((Q0_ k_ ∨ P1_3_ k_ ∨ P1_4_ k_) ∨ w.heap.size ≤ k_) ∧ k_ ≠ gb136)) k_ ∧ k_ ≠ go8)) (HO1_4.out) (fun k_ hk => ⟨⟨hk.1.1, hk.1.2⟩, fun e_ => (hk.2) (by rw [e_]; rfl)⟩)))) (fun _ hk => hk); have hx13_0 := hcc13 0 _ rfl; (try simp only [show (k39).sz = 6 from rfl, Nat.mul_one, Nat.add_zero] at hx13_0); have hf13_0 := hfr13 0; (try simp only [show (k39).sz = 6 from rfl, Nat.mul_one, Nat.add_zero] at hf13_0); have hx13_1 := hcc13 1 _ rfl; (try simp only [show (k39).sz = 6 from rfl, Nat.mul_one, Nat.add_zero] at hx13_1); have hf13_1 := hfr13 1; (try simp only [show (k39).sz = 6 from rfl, Nat.mul_one, Nat.add_zero] at hf13_1); have hx13_2 := hcc13 2 _ rfl; (try simp only [show (k39).sz = 6 from rfl, Nat.mul_one, Nat.add_zero] at hx13_2); have hf13_2 := hfr13 2; (try simp only [show (k39).sz = 6 from rfl, Nat.mul_one, Nat.add_zero] at hf13_2); have hx13_3 := hcc13 3 _ rfl; (try simp only [show (k39).sz = 6 from rfl, Nat.mul_one, Nat.add_zero] at hx13_3); have hf13_3 := hfr13 3; (try simp only [show (k39).sz = 6 from rfl, Nat.mul_one, Nat.add_zero] at hf13_3); have hx13_4 := hcc13 4 _ rfl; (try simp only [show (k39).sz = 6 from rfl, Nat.mul_one, Nat.add_zero] at hx13_4); have hf13_4 := hfr13 4; (try simp only [show (k39).sz = 6 from rfl, Nat.mul_one, Nat.add_zero] at hf13_4); have hx13_5 := hcc13 5 _ rfl; (try simp only [show (k39).sz = 6 from rfl, Nat.mul_one, Nat.add_zero] at hx13_5); have hf13_5 := hfr13 5; (try simp only [show (k39).sz = 6 from rfl, Nat.mul_one, Nat.add_zero] at hf13_5); clear hcl13 hcc13 hfr13 hM13) | ((with_reducible refine gate_store (t := 39) (p := 19) rfl ?_); refine store_event (t := 39) (p := 19) (v := ?vo_w14) (w1 := ((((((w11.setCell ⟨go8, (a1_0 : Int).toNat * 6, none⟩ (.int .u32 a1_0)).setCell ⟨go8, (a1_0 : Int).toNat * 6 + 1, none⟩ (.int .u32 a1_1)).setCell ⟨go8, (a1_0 : Int).toNat * 6 + 2, none⟩ (.int .u32 a1_2)).setCell ⟨go8, (a1_0 : Int).toNat * 6 + 3, none⟩ (.slice A1_3 l1_3.length c1_3)).setCell ⟨go8, (a1_0 : Int).toNat * 6 + 4, none⟩ (.slice A1_4 l1_4.length c1_4)).setCell ⟨go8, (a1_0 : Int).toNat * 6 + 5, none⟩ (.bool a1_5))) ?hg ?ho ?hn ?hr ?_; (case ho => rfl); (case hg => rfl); (case hn => rfl); (case hr => first | (go_simp; done) | (go_simp; rfl)); intro w14 hw; have hg : w11.grownBy w14 (some go8) := (by rw [hw]; exact HP13.2); have hp_ : Kd.N k39 39 w14 w.heap.size (fun k_ => ((Q0_ k_ ∨ P1_3_ k_ ∨ P1_4_ k_) ∨ w.heap.size ≤ k_) ∧ k_ ≠ gb136) (.slice (some ⟨go8, 0, none⟩) t138.length co8) y141 := (by rw [hw, Ny141.out]; exact HP13.1); clear HP13; have n4_ := Aside0.mk (hp_); have n5_ := Aside0.mk ((by rw [hw]; exact below_set (below_set (below_set (below_set (below_set (below_set (HB.out) GB8.out) GB8.out) GB8.out) GB8.out) GB8.out) GB8.out : Below w.heap.size w w14)); clear HO1_3 HO1_4 BK136 HO140 HB; have HO140 := n4_; have HB := n5_; clear n4_ n5_; clear hg hw hp_))
        go_ret2
        exact ⟨_, by first | rfl | (simp [errW_none, errW_some] <;> rfl) | (simp [*, errW_none, errW_some] <;> rfl), fun _ => Kd.N_V (by (with_reducible repeat (first | apply Kd.N_alloc | apply Kd.N_drewN | apply Kd.N_drew)); exact Kd.N_mono HO140.out (fun _ hk => hk.1)), by repeat (first | (with_reducible first | exact HB.out | apply below_alloc | apply pw_below_drewN | apply below_drew1 | refine below_set ?_ GE136.out) | exact HB.out)⟩
      · rw [if_neg c7] at H
        exact absurd H (by simp)
    · rw [if_neg c6] at H
      exact absurd H (by simp)
  · replace c4 := Bool.eq_false_iff.mpr c4
    subst c4
    have H1 : (some (l0, 1)) = some (r1, r2) := by rw [if_neg (show ¬ (false = true) by decide)] at H; exact H
    clear H
    have H := H1
    clear H1
    simp only [Option.some.injEq, Prod.mk.injEq] at H
    obtain ⟨rfl, rfl⟩ := H
    go_enter Try.func18, Try.ntmps18
    go_wp2_with (first | ((with_reducible refine gate_dst (N := 3) rfl ?_); refine box_event ?hg (N := 3) ?hd (cs := #[.int .u32 a1_0, .int .u32 a1_1, .int .u32 a1_2, .slice A1_3 l1_3.length c1_3, .slice A1_4 l1_4.length c1_4, .bool a1_5]) (t := 39) ?hr ?_; (case hd => rfl); (case hg => rfl); (case hr => first | (go_simp; done) | (go_simp; rfl)); intro gb136 hg w15 hbox hb; have n0_ := Aside0.mk (ve_ HO0.out gb136 hg hb); have n3_ := Aside0.mk (bs_ hb); have n4_ := Aside0.mk (hbox); have n6_ := Aside0.mk ((ge_ hg : w.heap.size ≤ gb136)); clear HO0 HO1_3 HO1_4 HB; have HO0 := n0_; have HB := n3_; have BK136 := n4_; have GE136 := n6_; clear n0_ n3_ n4_ n6_; clear hb hbox hg; have ⟨hcz16_0, hcz16_1, hcz16_2, hcz16_3, hcz16_4, hcz16_5⟩ := cz6_ BK136.out; have ⟨hfz16_0, hfz16_1, hfz16_2, hfz16_3, hfz16_4, hfz16_5⟩ := fz6_ BK136.out) | ((with_reducible refine gate_callee (f := 28) rfl ?_); refine goesL_ (some 10) rfl rfl Try.func28 (by kernel_rfl) rfl #[.slice A0 l0.length c0, .int .u32 a1_0] rfl (by (try simp only [List.map_toArray, List.map_cons, List.map_nil]); first | done | rfl | (simp only [List.length_drop, List.length_take]; rfl)) ?_; (with_reducible refine (people_in.calls _ _ l0 a1_0 false _ ?side1 ?side2 A3.out).mono ?_); (case side1 => repeat (first | exact (Kd.V_reads' HO0.out).2.2 | (with_reducible refine Kd.C_alloc ?_ _) | (with_reducible refine Kd.C_drewN ?_ _) | (with_reducible refine Kd.C_drew ?_))); (case side2 => exact (Kd.V_reads' HO0.out).2.1); rintro e w' ⟨rfl, ⟨nd, rfl⟩⟩; refine ⟨_, rfl, ?_⟩))
    go_ret2
    exact ⟨_, by first | rfl | (simp [errW_none, errW_some] <;> rfl) | (simp [*, errW_none, errW_some] <;> rfl), fun h0_ => absurd h0_ (by decide), by repeat (first | (with_reducible first | exact HB.out | apply below_alloc | apply pw_below_drewN | apply below_drew1 | refine below_set ?_ GE136.out) | exact HB.out)⟩
theorem rk.heap66 : Kd.Heap k66 := Kd.heap_iso _ (Kd.heap_pair (Kd.heap_int _) (Kd.heap_pair (Kd.heap_int _) (Kd.heap_pair (Kd.heap_int _) (Kd.heap_pair (Kd.heap_int _) (Kd.heap_pair (Kd.heap_int _) (Kd.heap_pair (Kd.heap_int _) (Kd.heap_pair (Kd.heap_int _) (Kd.heap_pair (Kd.heap_int _) (Kd.heap_int _)))))))))
theorem rk.heap39 : Kd.Heap k39 := Kd.heap_iso _ (Kd.heap_pair (Kd.heap_int _) (Kd.heap_pair (Kd.heap_int _) (Kd.heap_pair (Kd.heap_int _) (Kd.heap_pair (Kd.heap_slice _ (Kd.heap_int _)) (Kd.heap_pair (Kd.heap_slice _ rk.heap66) Kd.heap_bool)))))
set_option maxHeartbeats 8000000 in
set_option maxRecDepth 100000 in
theorem chamberlainlaw10_PeopleKeeps.calls (A0 : Option Addr) (c0 : Nat) (l0 : List (S39)) (a1_0 : Int) (a1_1 : Int) (a1_2 : Int) (A1_3 : Option Addr) (c1_3 : Nat) (l1_3 : List Int) (A1_4 : Option Addr) (c1_4 : Nat) (l1_4 : List (S66)) (a1_5 : Bool) (r : Bool) (w : World) (hr0 : Kd.C k39 w A0 l0.length l0) (hc0 : l0.length ≤ c0) (hr1_3 : Kd.C (Kd.int .u32) w A1_3 l1_3.length l1_3) (hc1_3 : l1_3.length ≤ c1_3) (hr1_4 : Kd.C k66 w A1_4 l1_4.length l1_4) (hc1_4 : l1_4.length ≤ c1_4) (h : chamberlainlaw10_PeopleKeeps.f l0 a1_0 a1_1 a1_2 l1_3 l1_4 a1_5 = some r) (hT0 : r = true) :
    Calls Try.prog 6 #[.slice A0 l0.length c0, .agg #[.int .u32 a1_0, .int .u32 a1_1, .int .u32 a1_2, .slice A1_3 l1_3.length c1_3, .slice A1_4 l1_4.length c1_4, .bool a1_5]] w fun e w' => e = .returned (.bool r) ∧ Below w.heap.size w w' := by
  have hT := Aside0.mk hT0
  clear hT0
  unfold chamberlainlaw10_PeopleKeeps.f at h
  by_cases hwf : 0 ≤ a1_0 ∧ a1_0 < 4294967296
  rotate_left
  · rw [if_neg hwf] at h; cases h
  rw [if_pos hwf] at h
  obtain rfl := Option.some.inj h
  clear h hT
  have hu39 := Try.underlying39
  have F0 := Kd.C_F rk.heap39 hr0
  have F3 := Kd.C_F (Kd.heap_int .u32) hr1_3
  have F4 := Kd.C_F rk.heap66 hr1_4
  have hmax := hr0.2.1
  have AW := Aside0.mk (uk.awake60 60 (Nat.le_refl _))
  have AF := Aside0.mk (uk.few_eq l0 300 hmax (by omega))
  obtain ⟨b, hb⟩ : ∃ b, b = uk.fewB l0 := ⟨_, rfl⟩
  rw [← hb] at AF
  cases b with
  | false =>
    clear hb
    go_enter Try.func6, Try.ntmps6
    go_wp2_with (first | ((with_reducible refine gate_dst (N := 3) rfl ?_); refine box_event ?hg (N := 3) ?hd (cs := #[.int .u32 a1_0, .int .u32 a1_1, .int .u32 a1_2, .slice A1_3 l1_3.length c1_3, .slice A1_4 l1_4.length c1_4, .bool a1_5]) (t := 39) ?hr ?_; (case hd => rfl); (case hg => rfl); (case hr => first | (go_simp; done) | (go_simp; rfl)); intro gb hgb W0 BK HB; clear hgb; have k0_ : W0.cell? ⟨gb, 0, none⟩ = some (.int .u32 a1_0) := (blk_cell BK 0).trans rfl; have z0_ := blk_frozen BK 0; have k1_ : W0.cell? ⟨gb, 1, none⟩ = some (.int .u32 a1_1) := (blk_cell BK 1).trans rfl; have z1_ := blk_frozen BK 1; have k2_ : W0.cell? ⟨gb, 2, none⟩ = some (.int .u32 a1_2) := (blk_cell BK 2).trans rfl; have z2_ := blk_frozen BK 2; have k3_ : W0.cell? ⟨gb, 3, none⟩ = some (.slice A1_3 l1_3.length c1_3) := (blk_cell BK 3).trans rfl; have z3_ := blk_frozen BK 3; have k4_ : W0.cell? ⟨gb, 4, none⟩ = some (.slice A1_4 l1_4.length c1_4) := (blk_cell BK 4).trans rfl; have z4_ := blk_frozen BK 4; have k5_ : W0.cell? ⟨gb, 5, none⟩ = some (.bool a1_5) := (blk_cell BK 5).trans rfl; have z5_ := blk_frozen BK 5) | (go_at_call 9; (with_reducible refine (chamberlainref10_Few.calls 300 _ _ l0 false _ (Kd.F_now (Kd.F_below F0 HB)) hc0 AF.out).mono ?_); rintro e W2 ⟨rfl, hd2⟩; have hb2 := hd2.below; clear hd2; replace BK := blk_below BK hb2; replace HB := HB.trans (hb2.mono HB.size); clear k0_ z0_ k1_ z1_ k2_ z2_ k3_ z3_ k4_ z4_ k5_ z5_; have k0_ : W2.cell? ⟨gb, 0, none⟩ = some (.int .u32 a1_0) := (blk_cell BK 0).trans rfl; have z0_ := blk_frozen BK 0; have k1_ : W2.cell? ⟨gb, 1, none⟩ = some (.int .u32 a1_1) := (blk_cell BK 1).trans rfl; have z1_ := blk_frozen BK 1; have k2_ : W2.cell? ⟨gb, 2, none⟩ = some (.int .u32 a1_2) := (blk_cell BK 2).trans rfl; have z2_ := blk_frozen BK 2; have k3_ : W2.cell? ⟨gb, 3, none⟩ = some (.slice A1_3 l1_3.length c1_3) := (blk_cell BK 3).trans rfl; have z3_ := blk_frozen BK 3; have k4_ : W2.cell? ⟨gb, 4, none⟩ = some (.slice A1_4 l1_4.length c1_4) := (blk_cell BK 4).trans rfl; have z4_ := blk_frozen BK 4; have k5_ : W2.cell? ⟨gb, 5, none⟩ = some (.bool a1_5) := (blk_cell BK 5).trans rfl; have z5_ := blk_frozen BK 5; clear hb2) | (go_at_call 8; (with_reducible refine (chamberlainlaw10_awake.calls 60 true _ AW.out).mono ?_); rintro e W1 ⟨rfl, hb1⟩; replace BK := blk_below BK hb1; replace HB := HB.trans (hb1.mono HB.size); clear k0_ z0_ k1_ z1_ k2_ z2_ k3_ z3_ k4_ z4_ k5_ z5_; have k0_ : W1.cell? ⟨gb, 0, none⟩ = some (.int .u32 a1_0) := (blk_cell BK 0).trans rfl; have z0_ := blk_frozen BK 0; have k1_ : W1.cell? ⟨gb, 1, none⟩ = some (.int .u32 a1_1) := (blk_cell BK 1).trans rfl; have z1_ := blk_frozen BK 1; have k2_ : W1.cell? ⟨gb, 2, none⟩ = some (.int .u32 a1_2) := (blk_cell BK 2).trans rfl; have z2_ := blk_frozen BK 2; have k3_ : W1.cell? ⟨gb, 3, none⟩ = some (.slice A1_3 l1_3.length c1_3) := (blk_cell BK 3).trans rfl; have z3_ := blk_frozen BK 3; have k4_ : W1.cell? ⟨gb, 4, none⟩ = some (.slice A1_4 l1_4.length c1_4) := (blk_cell BK 4).trans rfl; have z4_ := blk_frozen BK 4; have k5_ : W1.cell? ⟨gb, 5, none⟩ = some (.bool a1_5) := (blk_cell BK 5).trans rfl; have z5_ := blk_frozen BK 5; clear hb1))
    go_ret
    exact ⟨rfl, HB⟩
  | true =>
  obtain ⟨f1, f2⟩ := (uk.fewB_iff l0).1 hb.symm
  clear hb
  have AR := Aside0.mk (uk.rright_eq l0 300 (by omega) (by omega))
  obtain ⟨b, hb⟩ : ∃ b, b = uk.rightP l0 := ⟨_, rfl⟩
  rw [← hb] at AR
  cases b with
  | false =>
    clear hb
    go_enter Try.func6, Try.ntmps6
    go_wp2_with (first | ((with_reducible refine gate_dst (N := 3) rfl ?_); refine box_event ?hg (N := 3) ?hd (cs := #[.int .u32 a1_0, .int .u32 a1_1, .int .u32 a1_2, .slice A1_3 l1_3.length c1_3, .slice A1_4 l1_4.length c1_4, .bool a1_5]) (t := 39) ?hr ?_; (case hd => rfl); (case hg => rfl); (case hr => first | (go_simp; done) | (go_simp; rfl)); intro gb hgb W0 BK HB; clear hgb; have k0_ : W0.cell? ⟨gb, 0, none⟩ = some (.int .u32 a1_0) := (blk_cell BK 0).trans rfl; have z0_ := blk_frozen BK 0; have k1_ : W0.cell? ⟨gb, 1, none⟩ = some (.int .u32 a1_1) := (blk_cell BK 1).trans rfl; have z1_ := blk_frozen BK 1; have k2_ : W0.cell? ⟨gb, 2, none⟩ = some (.int .u32 a1_2) := (blk_cell BK 2).trans rfl; have z2_ := blk_frozen BK 2; have k3_ : W0.cell? ⟨gb, 3, none⟩ = some (.slice A1_3 l1_3.length c1_3) := (blk_cell BK 3).trans rfl; have z3_ := blk_frozen BK 3; have k4_ : W0.cell? ⟨gb, 4, none⟩ = some (.slice A1_4 l1_4.length c1_4) := (blk_cell BK 4).trans rfl; have z4_ := blk_frozen BK 4; have k5_ : W0.cell? ⟨gb, 5, none⟩ = some (.bool a1_5) := (blk_cell BK 5).trans rfl; have z5_ := blk_frozen BK 5) | (go_at_call 9; (with_reducible refine (chamberlainref10_Few.calls 300 _ _ l0 true _ (Kd.F_now (Kd.F_below F0 HB)) hc0 AF.out).mono ?_); rintro e W2 ⟨rfl, hd2⟩; have hb2 := hd2.below; clear hd2; replace BK := blk_below BK hb2; replace HB := HB.trans (hb2.mono HB.size); clear k0_ z0_ k1_ z1_ k2_ z2_ k3_ z3_ k4_ z4_ k5_ z5_; have k0_ : W2.cell? ⟨gb, 0, none⟩ = some (.int .u32 a1_0) := (blk_cell BK 0).trans rfl; have z0_ := blk_frozen BK 0; have k1_ : W2.cell? ⟨gb, 1, none⟩ = some (.int .u32 a1_1) := (blk_cell BK 1).trans rfl; have z1_ := blk_frozen BK 1; have k2_ : W2.cell? ⟨gb, 2, none⟩ = some (.int .u32 a1_2) := (blk_cell BK 2).trans rfl; have z2_ := blk_frozen BK 2; have k3_ : W2.cell? ⟨gb, 3, none⟩ = some (.slice A1_3 l1_3.length c1_3) := (blk_cell BK 3).trans rfl; have z3_ := blk_frozen BK 3; have k4_ : W2.cell? ⟨gb, 4, none⟩ = some (.slice A1_4 l1_4.length c1_4) := (blk_cell BK 4).trans rfl; have z4_ := blk_frozen BK 4; have k5_ : W2.cell? ⟨gb, 5, none⟩ = some (.bool a1_5) := (blk_cell BK 5).trans rfl; have z5_ := blk_frozen BK 5; clear hb2) | (go_at_call 12; (with_reducible refine (chamberlainref10_Right.calls 300 _ _ l0 false _ (Kd.F_now (Kd.F_below F0 HB)) hc0 AR.out).mono ?_); rintro e W3 ⟨rfl, hd3⟩; have hb3 := hd3.below; clear hd3; replace BK := blk_below BK hb3; replace HB := HB.trans (hb3.mono HB.size); clear k0_ z0_ k1_ z1_ k2_ z2_ k3_ z3_ k4_ z4_ k5_ z5_; have k0_ : W3.cell? ⟨gb, 0, none⟩ = some (.int .u32 a1_0) := (blk_cell BK 0).trans rfl; have z0_ := blk_frozen BK 0; have k1_ : W3.cell? ⟨gb, 1, none⟩ = some (.int .u32 a1_1) := (blk_cell BK 1).trans rfl; have z1_ := blk_frozen BK 1; have k2_ : W3.cell? ⟨gb, 2, none⟩ = some (.int .u32 a1_2) := (blk_cell BK 2).trans rfl; have z2_ := blk_frozen BK 2; have k3_ : W3.cell? ⟨gb, 3, none⟩ = some (.slice A1_3 l1_3.length c1_3) := (blk_cell BK 3).trans rfl; have z3_ := blk_frozen BK 3; have k4_ : W3.cell? ⟨gb, 4, none⟩ = some (.slice A1_4 l1_4.length c1_4) := (blk_cell BK 4).trans rfl; have z4_ := blk_frozen BK 4; have k5_ : W3.cell? ⟨gb, 5, none⟩ = some (.bool a1_5) := (blk_cell BK 5).trans rfl; have z5_ := blk_frozen BK 5; clear hb3) | (go_at_call 8; (with_reducible refine (chamberlainlaw10_awake.calls 60 true _ AW.out).mono ?_); rintro e W1 ⟨rfl, hb1⟩; replace BK := blk_below BK hb1; replace HB := HB.trans (hb1.mono HB.size); clear k0_ z0_ k1_ z1_ k2_ z2_ k3_ z3_ k4_ z4_ k5_ z5_; have k0_ : W1.cell? ⟨gb, 0, none⟩ = some (.int .u32 a1_0) := (blk_cell BK 0).trans rfl; have z0_ := blk_frozen BK 0; have k1_ : W1.cell? ⟨gb, 1, none⟩ = some (.int .u32 a1_1) := (blk_cell BK 1).trans rfl; have z1_ := blk_frozen BK 1; have k2_ : W1.cell? ⟨gb, 2, none⟩ = some (.int .u32 a1_2) := (blk_cell BK 2).trans rfl; have z2_ := blk_frozen BK 2; have k3_ : W1.cell? ⟨gb, 3, none⟩ = some (.slice A1_3 l1_3.length c1_3) := (blk_cell BK 3).trans rfl; have z3_ := blk_frozen BK 3; have k4_ : W1.cell? ⟨gb, 4, none⟩ = some (.slice A1_4 l1_4.length c1_4) := (blk_cell BK 4).trans rfl; have z4_ := blk_frozen BK 4; have k5_ : W1.cell? ⟨gb, 5, none⟩ = some (.bool a1_5) := (blk_cell BK 5).trans rfl; have z5_ := blk_frozen BK 5; clear hb1))
    go_ret
    exact ⟨rfl, HB⟩
  | true =>
  have hright := hb.symm
  obtain ⟨_, r1, r2⟩ := (uk.rightP_iff l0).1 hright
  clear hb
  obtain ⟨ys, hys⟩ : ∃ ys : List S39, ys = [(⟨a1_0, a1_1, a1_2, l1_3, l1_4, a1_5⟩ : S39)] := ⟨_, rfl⟩
  have AP := Aside0.mk (uk.few_eq ys 300 (by rw [hys]; simp) (by omega))
  have NY := Aside0.mk hys
  clear hys
  obtain ⟨b, hb⟩ : ∃ b, b = uk.fewB ys := ⟨_, rfl⟩
  rw [← hb] at AP
  cases b with
  | false =>
    clear hb
    go_enter Try.func6, Try.ntmps6
    go_wp2_with (first | ((with_reducible refine gate_dst (N := 3) rfl ?_); refine box_event ?hg (N := 3) ?hd (cs := #[.int .u32 a1_0, .int .u32 a1_1, .int .u32 a1_2, .slice A1_3 l1_3.length c1_3, .slice A1_4 l1_4.length c1_4, .bool a1_5]) (t := 39) ?hr ?_; (case hd => rfl); (case hg => rfl); (case hr => first | (go_simp; done) | (go_simp; rfl)); intro gb hgb W0 BK HB; clear hgb; have k0_ : W0.cell? ⟨gb, 0, none⟩ = some (.int .u32 a1_0) := (blk_cell BK 0).trans rfl; have z0_ := blk_frozen BK 0; have k1_ : W0.cell? ⟨gb, 1, none⟩ = some (.int .u32 a1_1) := (blk_cell BK 1).trans rfl; have z1_ := blk_frozen BK 1; have k2_ : W0.cell? ⟨gb, 2, none⟩ = some (.int .u32 a1_2) := (blk_cell BK 2).trans rfl; have z2_ := blk_frozen BK 2; have k3_ : W0.cell? ⟨gb, 3, none⟩ = some (.slice A1_3 l1_3.length c1_3) := (blk_cell BK 3).trans rfl; have z3_ := blk_frozen BK 3; have k4_ : W0.cell? ⟨gb, 4, none⟩ = some (.slice A1_4 l1_4.length c1_4) := (blk_cell BK 4).trans rfl; have z4_ := blk_frozen BK 4; have k5_ : W0.cell? ⟨gb, 5, none⟩ = some (.bool a1_5) := (blk_cell BK 5).trans rfl; have z5_ := blk_frozen BK 5) | (go_at_call 9; (with_reducible refine (chamberlainref10_Few.calls 300 _ _ l0 true _ (Kd.F_now (Kd.F_below F0 HB)) hc0 AF.out).mono ?_); rintro e W2 ⟨rfl, hd2⟩; have hb2 := hd2.below; clear hd2; replace BK := blk_below BK hb2; replace HB := HB.trans (hb2.mono HB.size); clear k0_ z0_ k1_ z1_ k2_ z2_ k3_ z3_ k4_ z4_ k5_ z5_; have k0_ : W2.cell? ⟨gb, 0, none⟩ = some (.int .u32 a1_0) := (blk_cell BK 0).trans rfl; have z0_ := blk_frozen BK 0; have k1_ : W2.cell? ⟨gb, 1, none⟩ = some (.int .u32 a1_1) := (blk_cell BK 1).trans rfl; have z1_ := blk_frozen BK 1; have k2_ : W2.cell? ⟨gb, 2, none⟩ = some (.int .u32 a1_2) := (blk_cell BK 2).trans rfl; have z2_ := blk_frozen BK 2; have k3_ : W2.cell? ⟨gb, 3, none⟩ = some (.slice A1_3 l1_3.length c1_3) := (blk_cell BK 3).trans rfl; have z3_ := blk_frozen BK 3; have k4_ : W2.cell? ⟨gb, 4, none⟩ = some (.slice A1_4 l1_4.length c1_4) := (blk_cell BK 4).trans rfl; have z4_ := blk_frozen BK 4; have k5_ : W2.cell? ⟨gb, 5, none⟩ = some (.bool a1_5) := (blk_cell BK 5).trans rfl; have z5_ := blk_frozen BK 5; clear hb2) | (go_at_call 12; (with_reducible refine (chamberlainref10_Right.calls 300 _ _ l0 true _ (Kd.F_now (Kd.F_below F0 HB)) hc0 AR.out).mono ?_); rintro e W3 ⟨rfl, hd3⟩; have hb3 := hd3.below; clear hd3; replace BK := blk_below BK hb3; replace HB := HB.trans (hb3.mono HB.size); clear k0_ z0_ k1_ z1_ k2_ z2_ k3_ z3_ k4_ z4_ k5_ z5_; have k0_ : W3.cell? ⟨gb, 0, none⟩ = some (.int .u32 a1_0) := (blk_cell BK 0).trans rfl; have z0_ := blk_frozen BK 0; have k1_ : W3.cell? ⟨gb, 1, none⟩ = some (.int .u32 a1_1) := (blk_cell BK 1).trans rfl; have z1_ := blk_frozen BK 1; have k2_ : W3.cell? ⟨gb, 2, none⟩ = some (.int .u32 a1_2) := (blk_cell BK 2).trans rfl; have z2_ := blk_frozen BK 2; have k3_ : W3.cell? ⟨gb, 3, none⟩ = some (.slice A1_3 l1_3.length c1_3) := (blk_cell BK 3).trans rfl; have z3_ := blk_frozen BK 3; have k4_ : W3.cell? ⟨gb, 4, none⟩ = some (.slice A1_4 l1_4.length c1_4) := (blk_cell BK 4).trans rfl; have z4_ := blk_frozen BK 4; have k5_ : W3.cell? ⟨gb, 5, none⟩ = some (.bool a1_5) := (blk_cell BK 5).trans rfl; have z5_ := blk_frozen BK 5; clear hb3) | ((with_reducible refine gate_dst (N := 25) rfl ?_); (try (refine gate_guard (by rfl) ?_; dsimp only)); refine Kd.N_lit k39 _ 39 ?hg (N' := 25) ?hd (xs := [(⟨a1_0, a1_1, a1_2, l1_3, l1_4, a1_5⟩ : S39)]) (inner := [.int .u32 a1_0, .int .u32 a1_1, .int .u32 a1_2, .slice A1_3 l1_3.length c1_3, .slice A1_4 l1_4.length c1_4, .bool a1_5]) (ok := fun _ => True) (okp := fun _ => True) ?hr ?hp (fun _ hk => hk) trivial (Below.refl _ _) (Nat.le_refl _) (by simp) ?_; (case hd => rfl); (case hg => rfl); (case hr => first | (go_simp; done) | (go_simp; rfl)); (case hp => exact Reps.snoc (ps := []) (cs := []) (Reps.none _ _) (k39_mkF _ _ (⟨a1_0, a1_1, a1_2, l1_3, l1_4, a1_5⟩ : S39) hc1_3 (Kd.F_mono (Kd.F_below F3 HB) (fun _ _ => trivial)) hc1_4 (Kd.F_mono (Kd.F_below F4 HB) (fun _ _ => trivial))) rfl); intro v25 W4 hN4 hb4 hg_ hnew_; clear hg_ hnew_; rw [← NY.out] at hN4; replace BK := blk_below BK hb4; replace HB := HB.trans (hb4.mono HB.size); clear k0_ z0_ k1_ z1_ k2_ z2_ k3_ z3_ k4_ z4_ k5_ z5_; have k0_ : W4.cell? ⟨gb, 0, none⟩ = some (.int .u32 a1_0) := (blk_cell BK 0).trans rfl; have z0_ := blk_frozen BK 0; have k1_ : W4.cell? ⟨gb, 1, none⟩ = some (.int .u32 a1_1) := (blk_cell BK 1).trans rfl; have z1_ := blk_frozen BK 1; have k2_ : W4.cell? ⟨gb, 2, none⟩ = some (.int .u32 a1_2) := (blk_cell BK 2).trans rfl; have z2_ := blk_frozen BK 2; have k3_ : W4.cell? ⟨gb, 3, none⟩ = some (.slice A1_3 l1_3.length c1_3) := (blk_cell BK 3).trans rfl; have z3_ := blk_frozen BK 3; have k4_ : W4.cell? ⟨gb, 4, none⟩ = some (.slice A1_4 l1_4.length c1_4) := (blk_cell BK 4).trans rfl; have z4_ := blk_frozen BK 4; have k5_ : W4.cell? ⟨gb, 5, none⟩ = some (.bool a1_5) := (blk_cell BK 5).trans rfl; have z5_ := blk_frozen BK 5; clear hb4; obtain ⟨Ap, cp, rfl⟩ := Kd.N_slice hN4) | (go_at_call 9; (with_reducible refine (chamberlainref10_Few.calls 300 _ _ ys false _ (Kd.N_reads' hN4).2.2 (Kd.N_reads' hN4).2.1 AP.out).mono ?_); rintro e W5 ⟨rfl, hd5⟩; have hb5 := hd5.below; clear hd5; replace BK := blk_below BK hb5; replace HB := HB.trans (hb5.mono HB.size); clear k0_ z0_ k1_ z1_ k2_ z2_ k3_ z3_ k4_ z4_ k5_ z5_; have k0_ : W5.cell? ⟨gb, 0, none⟩ = some (.int .u32 a1_0) := (blk_cell BK 0).trans rfl; have z0_ := blk_frozen BK 0; have k1_ : W5.cell? ⟨gb, 1, none⟩ = some (.int .u32 a1_1) := (blk_cell BK 1).trans rfl; have z1_ := blk_frozen BK 1; have k2_ : W5.cell? ⟨gb, 2, none⟩ = some (.int .u32 a1_2) := (blk_cell BK 2).trans rfl; have z2_ := blk_frozen BK 2; have k3_ : W5.cell? ⟨gb, 3, none⟩ = some (.slice A1_3 l1_3.length c1_3) := (blk_cell BK 3).trans rfl; have z3_ := blk_frozen BK 3; have k4_ : W5.cell? ⟨gb, 4, none⟩ = some (.slice A1_4 l1_4.length c1_4) := (blk_cell BK 4).trans rfl; have z4_ := blk_frozen BK 4; have k5_ : W5.cell? ⟨gb, 5, none⟩ = some (.bool a1_5) := (blk_cell BK 5).trans rfl; have z5_ := blk_frozen BK 5; clear hb5; clear hN4) | (go_at_call 8; (with_reducible refine (chamberlainlaw10_awake.calls 60 true _ AW.out).mono ?_); rintro e W1 ⟨rfl, hb1⟩; replace BK := blk_below BK hb1; replace HB := HB.trans (hb1.mono HB.size); clear k0_ z0_ k1_ z1_ k2_ z2_ k3_ z3_ k4_ z4_ k5_ z5_; have k0_ : W1.cell? ⟨gb, 0, none⟩ = some (.int .u32 a1_0) := (blk_cell BK 0).trans rfl; have z0_ := blk_frozen BK 0; have k1_ : W1.cell? ⟨gb, 1, none⟩ = some (.int .u32 a1_1) := (blk_cell BK 1).trans rfl; have z1_ := blk_frozen BK 1; have k2_ : W1.cell? ⟨gb, 2, none⟩ = some (.int .u32 a1_2) := (blk_cell BK 2).trans rfl; have z2_ := blk_frozen BK 2; have k3_ : W1.cell? ⟨gb, 3, none⟩ = some (.slice A1_3 l1_3.length c1_3) := (blk_cell BK 3).trans rfl; have z3_ := blk_frozen BK 3; have k4_ : W1.cell? ⟨gb, 4, none⟩ = some (.slice A1_4 l1_4.length c1_4) := (blk_cell BK 4).trans rfl; have z4_ := blk_frozen BK 4; have k5_ : W1.cell? ⟨gb, 5, none⟩ = some (.bool a1_5) := (blk_cell BK 5).trans rfl; have z5_ := blk_frozen BK 5; clear hb1))
    go_ret
    exact ⟨rfl, HB⟩
  | true =>
  have hsm : uk.small ⟨a1_0, a1_1, a1_2, l1_3, l1_4, a1_5⟩ := ((uk.fewB_iff _).1 hb.symm).2 _ (by rw [NY.out]; simp)
  clear hb
  obtain ⟨s1, s2, hst⟩ : ∃ s1 s2, uk.setOf l0 ⟨a1_0, a1_1, a1_2, l1_3, l1_4, a1_5⟩ = (s1, s2) := ⟨_, _, rfl⟩
  have hsl : s1.length ≤ 10 := by
    have e : (uk.setOf l0 ⟨a1_0, a1_1, a1_2, l1_3, l1_4, a1_5⟩).1.length = l0.length := by unfold uk.setOf; split <;> simp
    rw [hst] at e; simp only at e; omega
  have hss : ∀ x ∈ s1, uk.small x := by
    have e : ∀ x ∈ (uk.setOf l0 ⟨a1_0, a1_1, a1_2, l1_3, l1_4, a1_5⟩).1, uk.small x := by
      unfold uk.setOf
      split
      · intro x hx
        rcases List.mem_or_eq_of_mem_set hx with q | q
        · exact f2 x q
        · rw [q]; exact hsm
      · exact f2
    rw [hst] at e; exact e
  have AA := Aside0.mk (show people_Set.f l0 a1_0 a1_1 a1_2 l1_3 l1_4 a1_5 = some (s1, s2) by rw [uk.set_eq _ _ _ _ _ _ _ (by omega) hwf, hst])
  have AC := Aside0.mk (show chamberlainref10_Set.f 300 l0 a1_0 a1_1 a1_2 l1_3 l1_4 a1_5 = some (s1, s2) by rw [uk.rset_eq _ _ _ _ _ _ _ _ hright hwf (by omega), hst])
  have AS := Aside0.mk (uk.ppl_self l0 400 (by omega) f2 (by omega))
  have ASs := Aside0.mk (uk.ppl_self s1 400 (by omega) hss (by omega))
  clear hst
  go_enter Try.func6, Try.ntmps6
  go_wp2_with (first | ((with_reducible refine gate_dst (N := 3) rfl ?_); refine box_event ?hg (N := 3) ?hd (cs := #[.int .u32 a1_0, .int .u32 a1_1, .int .u32 a1_2, .slice A1_3 l1_3.length c1_3, .slice A1_4 l1_4.length c1_4, .bool a1_5]) (t := 39) ?hr ?_; (case hd => rfl); (case hg => rfl); (case hr => first | (go_simp; done) | (go_simp; rfl)); intro gb hgb W0 BK HB; clear hgb; have k0_ : W0.cell? ⟨gb, 0, none⟩ = some (.int .u32 a1_0) := (blk_cell BK 0).trans rfl; have z0_ := blk_frozen BK 0; have k1_ : W0.cell? ⟨gb, 1, none⟩ = some (.int .u32 a1_1) := (blk_cell BK 1).trans rfl; have z1_ := blk_frozen BK 1; have k2_ : W0.cell? ⟨gb, 2, none⟩ = some (.int .u32 a1_2) := (blk_cell BK 2).trans rfl; have z2_ := blk_frozen BK 2; have k3_ : W0.cell? ⟨gb, 3, none⟩ = some (.slice A1_3 l1_3.length c1_3) := (blk_cell BK 3).trans rfl; have z3_ := blk_frozen BK 3; have k4_ : W0.cell? ⟨gb, 4, none⟩ = some (.slice A1_4 l1_4.length c1_4) := (blk_cell BK 4).trans rfl; have z4_ := blk_frozen BK 4; have k5_ : W0.cell? ⟨gb, 5, none⟩ = some (.bool a1_5) := (blk_cell BK 5).trans rfl; have z5_ := blk_frozen BK 5) | (go_at_call 9; (with_reducible refine (chamberlainref10_Few.calls 300 _ _ l0 true _ (Kd.F_now (Kd.F_below F0 HB)) hc0 AF.out).mono ?_); rintro e W2 ⟨rfl, hd2⟩; have hb2 := hd2.below; clear hd2; replace BK := blk_below BK hb2; replace HB := HB.trans (hb2.mono HB.size); clear k0_ z0_ k1_ z1_ k2_ z2_ k3_ z3_ k4_ z4_ k5_ z5_; have k0_ : W2.cell? ⟨gb, 0, none⟩ = some (.int .u32 a1_0) := (blk_cell BK 0).trans rfl; have z0_ := blk_frozen BK 0; have k1_ : W2.cell? ⟨gb, 1, none⟩ = some (.int .u32 a1_1) := (blk_cell BK 1).trans rfl; have z1_ := blk_frozen BK 1; have k2_ : W2.cell? ⟨gb, 2, none⟩ = some (.int .u32 a1_2) := (blk_cell BK 2).trans rfl; have z2_ := blk_frozen BK 2; have k3_ : W2.cell? ⟨gb, 3, none⟩ = some (.slice A1_3 l1_3.length c1_3) := (blk_cell BK 3).trans rfl; have z3_ := blk_frozen BK 3; have k4_ : W2.cell? ⟨gb, 4, none⟩ = some (.slice A1_4 l1_4.length c1_4) := (blk_cell BK 4).trans rfl; have z4_ := blk_frozen BK 4; have k5_ : W2.cell? ⟨gb, 5, none⟩ = some (.bool a1_5) := (blk_cell BK 5).trans rfl; have z5_ := blk_frozen BK 5; clear hb2) | (go_at_call 12; (with_reducible refine (chamberlainref10_Right.calls 300 _ _ l0 true _ (Kd.F_now (Kd.F_below F0 HB)) hc0 AR.out).mono ?_); rintro e W3 ⟨rfl, hd3⟩; have hb3 := hd3.below; clear hd3; replace BK := blk_below BK hb3; replace HB := HB.trans (hb3.mono HB.size); clear k0_ z0_ k1_ z1_ k2_ z2_ k3_ z3_ k4_ z4_ k5_ z5_; have k0_ : W3.cell? ⟨gb, 0, none⟩ = some (.int .u32 a1_0) := (blk_cell BK 0).trans rfl; have z0_ := blk_frozen BK 0; have k1_ : W3.cell? ⟨gb, 1, none⟩ = some (.int .u32 a1_1) := (blk_cell BK 1).trans rfl; have z1_ := blk_frozen BK 1; have k2_ : W3.cell? ⟨gb, 2, none⟩ = some (.int .u32 a1_2) := (blk_cell BK 2).trans rfl; have z2_ := blk_frozen BK 2; have k3_ : W3.cell? ⟨gb, 3, none⟩ = some (.slice A1_3 l1_3.length c1_3) := (blk_cell BK 3).trans rfl; have z3_ := blk_frozen BK 3; have k4_ : W3.cell? ⟨gb, 4, none⟩ = some (.slice A1_4 l1_4.length c1_4) := (blk_cell BK 4).trans rfl; have z4_ := blk_frozen BK 4; have k5_ : W3.cell? ⟨gb, 5, none⟩ = some (.bool a1_5) := (blk_cell BK 5).trans rfl; have z5_ := blk_frozen BK 5; clear hb3) | ((with_reducible refine gate_dst (N := 25) rfl ?_); (try (refine gate_guard (by rfl) ?_; dsimp only)); refine Kd.N_lit k39 _ 39 ?hg (N' := 25) ?hd (xs := [(⟨a1_0, a1_1, a1_2, l1_3, l1_4, a1_5⟩ : S39)]) (inner := [.int .u32 a1_0, .int .u32 a1_1, .int .u32 a1_2, .slice A1_3 l1_3.length c1_3, .slice A1_4 l1_4.length c1_4, .bool a1_5]) (ok := fun _ => True) (okp := fun _ => True) ?hr ?hp (fun _ hk => hk) trivial (Below.refl _ _) (Nat.le_refl _) (by simp) ?_; (case hd => rfl); (case hg => rfl); (case hr => first | (go_simp; done) | (go_simp; rfl)); (case hp => exact Reps.snoc (ps := []) (cs := []) (Reps.none _ _) (k39_mkF _ _ (⟨a1_0, a1_1, a1_2, l1_3, l1_4, a1_5⟩ : S39) hc1_3 (Kd.F_mono (Kd.F_below F3 HB) (fun _ _ => trivial)) hc1_4 (Kd.F_mono (Kd.F_below F4 HB) (fun _ _ => trivial))) rfl); intro v25 W4 hN4 hb4 hg_ hnew_; clear hg_ hnew_; rw [← NY.out] at hN4; replace BK := blk_below BK hb4; replace HB := HB.trans (hb4.mono HB.size); clear k0_ z0_ k1_ z1_ k2_ z2_ k3_ z3_ k4_ z4_ k5_ z5_; have k0_ : W4.cell? ⟨gb, 0, none⟩ = some (.int .u32 a1_0) := (blk_cell BK 0).trans rfl; have z0_ := blk_frozen BK 0; have k1_ : W4.cell? ⟨gb, 1, none⟩ = some (.int .u32 a1_1) := (blk_cell BK 1).trans rfl; have z1_ := blk_frozen BK 1; have k2_ : W4.cell? ⟨gb, 2, none⟩ = some (.int .u32 a1_2) := (blk_cell BK 2).trans rfl; have z2_ := blk_frozen BK 2; have k3_ : W4.cell? ⟨gb, 3, none⟩ = some (.slice A1_3 l1_3.length c1_3) := (blk_cell BK 3).trans rfl; have z3_ := blk_frozen BK 3; have k4_ : W4.cell? ⟨gb, 4, none⟩ = some (.slice A1_4 l1_4.length c1_4) := (blk_cell BK 4).trans rfl; have z4_ := blk_frozen BK 4; have k5_ : W4.cell? ⟨gb, 5, none⟩ = some (.bool a1_5) := (blk_cell BK 5).trans rfl; have z5_ := blk_frozen BK 5; clear hb4; obtain ⟨Ap, cp, rfl⟩ := Kd.N_slice hN4) | (go_at_call 9; (with_reducible refine (chamberlainref10_Few.calls 300 _ _ ys true _ (Kd.N_reads' hN4).2.2 (Kd.N_reads' hN4).2.1 AP.out).mono ?_); rintro e W5 ⟨rfl, hd5⟩; have hb5 := hd5.below; clear hd5; replace BK := blk_below BK hb5; replace HB := HB.trans (hb5.mono HB.size); clear k0_ z0_ k1_ z1_ k2_ z2_ k3_ z3_ k4_ z4_ k5_ z5_; have k0_ : W5.cell? ⟨gb, 0, none⟩ = some (.int .u32 a1_0) := (blk_cell BK 0).trans rfl; have z0_ := blk_frozen BK 0; have k1_ : W5.cell? ⟨gb, 1, none⟩ = some (.int .u32 a1_1) := (blk_cell BK 1).trans rfl; have z1_ := blk_frozen BK 1; have k2_ : W5.cell? ⟨gb, 2, none⟩ = some (.int .u32 a1_2) := (blk_cell BK 2).trans rfl; have z2_ := blk_frozen BK 2; have k3_ : W5.cell? ⟨gb, 3, none⟩ = some (.slice A1_3 l1_3.length c1_3) := (blk_cell BK 3).trans rfl; have z3_ := blk_frozen BK 3; have k4_ : W5.cell? ⟨gb, 4, none⟩ = some (.slice A1_4 l1_4.length c1_4) := (blk_cell BK 4).trans rfl; have z4_ := blk_frozen BK 4; have k5_ : W5.cell? ⟨gb, 5, none⟩ = some (.bool a1_5) := (blk_cell BK 5).trans rfl; have z5_ := blk_frozen BK 5; clear hb5; clear hN4) | (go_at_call 8; (with_reducible refine (chamberlainlaw10_awake.calls 60 true _ AW.out).mono ?_); rintro e W1 ⟨rfl, hb1⟩; replace BK := blk_below BK hb1; replace HB := HB.trans (hb1.mono HB.size); clear k0_ z0_ k1_ z1_ k2_ z2_ k3_ z3_ k4_ z4_ k5_ z5_; have k0_ : W1.cell? ⟨gb, 0, none⟩ = some (.int .u32 a1_0) := (blk_cell BK 0).trans rfl; have z0_ := blk_frozen BK 0; have k1_ : W1.cell? ⟨gb, 1, none⟩ = some (.int .u32 a1_1) := (blk_cell BK 1).trans rfl; have z1_ := blk_frozen BK 1; have k2_ : W1.cell? ⟨gb, 2, none⟩ = some (.int .u32 a1_2) := (blk_cell BK 2).trans rfl; have z2_ := blk_frozen BK 2; have k3_ : W1.cell? ⟨gb, 3, none⟩ = some (.slice A1_3 l1_3.length c1_3) := (blk_cell BK 3).trans rfl; have z3_ := blk_frozen BK 3; have k4_ : W1.cell? ⟨gb, 4, none⟩ = some (.slice A1_4 l1_4.length c1_4) := (blk_cell BK 4).trans rfl; have z4_ := blk_frozen BK 4; have k5_ : W1.cell? ⟨gb, 5, none⟩ = some (.bool a1_5) := (blk_cell BK 5).trans rfl; have z5_ := blk_frozen BK 5; clear hb1) | ((with_reducible refine gate_dst (N := 30) rfl ?_); refine Kd.N_lit k39 _ 39 ?hg (N' := 30) ?hd (xs := ([] : List S39)) (inner := []) (ok := fun _ => True) (okp := fun _ => True) ?hr ?hp (fun _ hk => hk) trivial (Below.refl _ _) (Nat.le_refl _) (by simp) ?_; (case hd => rfl); (case hg => rfl); (case hr => first | (go_simp; done) | (go_simp; rfl)); (case hp => exact (Reps.none _ _)); intro v30 W6 hN6 hb6 hg_ hnew_; clear hg_ hnew_; have hn30 : ∀ k, v30.ownBlock = some k → gb < k := (fun k hk => Nat.lt_of_lt_of_le (blk_lt BK) (Kd.N_base hN6 k hk)); have hn31 : ∀ k, v30.ownBlock = some k → w.heap.size ≤ k := (fun k hk => Nat.le_trans HB.size (Kd.N_base hN6 k hk)); replace hN6 := Kd.N_lower hN6 HB.size; replace BK := blk_below BK hb6; replace HB := HB.trans (hb6.mono HB.size); clear k0_ z0_ k1_ z1_ k2_ z2_ k3_ z3_ k4_ z4_ k5_ z5_; have k0_ : W6.cell? ⟨gb, 0, none⟩ = some (.int .u32 a1_0) := (blk_cell BK 0).trans rfl; have z0_ := blk_frozen BK 0; have k1_ : W6.cell? ⟨gb, 1, none⟩ = some (.int .u32 a1_1) := (blk_cell BK 1).trans rfl; have z1_ := blk_frozen BK 1; have k2_ : W6.cell? ⟨gb, 2, none⟩ = some (.int .u32 a1_2) := (blk_cell BK 2).trans rfl; have z2_ := blk_frozen BK 2; have k3_ : W6.cell? ⟨gb, 3, none⟩ = some (.slice A1_3 l1_3.length c1_3) := (blk_cell BK 3).trans rfl; have z3_ := blk_frozen BK 3; have k4_ : W6.cell? ⟨gb, 4, none⟩ = some (.slice A1_4 l1_4.length c1_4) := (blk_cell BK 4).trans rfl; have z4_ := blk_frozen BK 4; have k5_ : W6.cell? ⟨gb, 5, none⟩ = some (.bool a1_5) := (blk_cell BK 5).trans rfl; have z5_ := blk_frozen BK 5; clear hb6) | ((with_reducible refine gate_builtin (b := .append) (xs := #[.tmp 30, .tmp 31]) rfl ?_); at_builtin; refine Kd.N_append_rows k39 (w0 := w) w.heap.size rfl (.tmp 30) (.tmp 31) 25 39 (.agg #[(.int .u32 0), (.int .u32 0), (.int .u32 0), (.slice none 0 0), (.slice none 0 0), (.bool false)]) 72 rfl Try.underlying25 info39 rfl (by decide) (by omega) v30 [] l0 _ _ _ (fun _ => True) (fun k => k < w.heap.size) rfl rfl hN6 (Kd.F_below F0 HB) (fun k hk => ⟨trivial, fun e_ => Nat.lt_irrefl _ (Nat.lt_of_lt_of_le hk (hn31 k e_.symm))⟩) (fun _ _ => trivial) HB HB.size (by simp only [List.length_nil]; omega) ?_; intro v32 W7 hN7 HB7 hg7 hat7; have BK7 := BK; replace BK := (hg7.block gb (blk_lt BK) (fun e_ => Nat.lt_irrefl _ (hn30 gb e_.symm))).trans BK; have hne7 : ∀ k, v32.ownBlock = some k → gb ≠ k := (fun k hk => hat7.elim (fun e => Nat.ne_of_lt (hn30 k (e.symm.trans hk))) (fun ⟨b, e, hb⟩ => by rw [e] at hk; cases hk; exact fun e2 => by subst e2; exact Nat.lt_irrefl _ (Nat.lt_of_lt_of_le (blk_lt BK7) hb))); replace HB := HB7; clear BK7 HB7 hg7 hat7 hN6 hn30 hn31; clear k0_ z0_ k1_ z1_ k2_ z2_ k3_ z3_ k4_ z4_ k5_ z5_; have k0_ : W7.cell? ⟨gb, 0, none⟩ = some (.int .u32 a1_0) := (blk_cell BK 0).trans rfl; have z0_ := blk_frozen BK 0; have k1_ : W7.cell? ⟨gb, 1, none⟩ = some (.int .u32 a1_1) := (blk_cell BK 1).trans rfl; have z1_ := blk_frozen BK 1; have k2_ : W7.cell? ⟨gb, 2, none⟩ = some (.int .u32 a1_2) := (blk_cell BK 2).trans rfl; have z2_ := blk_frozen BK 2; have k3_ : W7.cell? ⟨gb, 3, none⟩ = some (.slice A1_3 l1_3.length c1_3) := (blk_cell BK 3).trans rfl; have z3_ := blk_frozen BK 3; have k4_ : W7.cell? ⟨gb, 4, none⟩ = some (.slice A1_4 l1_4.length c1_4) := (blk_cell BK 4).trans rfl; have z4_ := blk_frozen BK 4; have k5_ : W7.cell? ⟨gb, 5, none⟩ = some (.bool a1_5) := (blk_cell BK 5).trans rfl; have z5_ := blk_frozen BK 5))
  rw [List.nil_append] at hN7
  obtain ⟨_, rows, hrl, hRr, _⟩ := id hN7
  obtain ⟨g, cap, cur, hv, hg1, hg2, hg3, hg4, hh, hg5, _⟩ := kk.open_ hRr (by rw [hrl]; omega)
  rw [hrl] at hv hg3
  subst hv
  have hneg : gb ≠ g := hne7 g (by simp [Value.ownBlock])
  have HK : kk.Blk W7 g 39 (cap * 6) := ⟨cur, hh, hg5⟩
  have HE : kk.E k39 W7 (fun k => k ≠ g) (some ⟨g, 0, none⟩) l0.length l0 := (kk.E.ofN hN7).mono (fun k hk e => hk.2 (by subst e; simp [Value.ownBlock]))
  have FO : Kd.F k39 W7 (fun _ => True) (some ⟨g, 0, none⟩) l0.length l0 := Kd.N_F hN7
  have hgw : ∀ k, k < w.heap.size → k ≠ g := fun k hk e => by omega
  have hgn : ∀ k, W7.heap.size ≤ k → k ≠ g := fun k hk e => by omega
  clear hne7 hRr hh hrl hN7
  refine (people_Set.new (fun _ => True) (fun k => k ≠ g) _ cap l0 a1_0 a1_1 a1_2 (fun k => k < w.heap.size) A1_3 c1_3 l1_3 (fun k => k < w.heap.size) A1_4 c1_4 l1_4 a1_5 s1 s2 _ (Kd.V_mk hg3 FO) (Kd.V_mk hc1_3 (Kd.F_below F3 HB)) (Kd.V_mk hc1_4 (Kd.F_below F4 HB)) HE AA.out).mono ?_
  rintro e W8 ⟨va, rfl, hVa, hb8⟩
  replace hVa : s2 = 0 → Kd.V k39 39 W8 0 (fun k => k ≠ g) va s1 := fun h0 => Kd.V_mono (hVa h0) (fun k hk => hk.elim (fun h => h.elim id (fun h => h.elim (hgw k) (hgw k))) (hgn k))
  replace HK := HK.below hb8
  replace FO := Kd.F_below FO hb8
  replace BK := blk_below BK hb8
  replace HB := HB.trans (hb8.mono HB.size)
  clear k0_ z0_ k1_ z1_ k2_ z2_ k3_ z3_ k4_ z4_ k5_ z5_
  clear hb8 HE hgn
  go_wp2_with fail
  refine (chamberlainref10_Same.calls 400 _ _ l0 _ _ l0 true _ (Kd.F_now FO) hg3 (Kd.F_now (Kd.F_below F0 HB)) hc0 AS.out).mono ?_
  rintro e W9 ⟨rfl, hb9⟩
  replace hVa := fun h0 => Kd.V_below (hVa h0) hb9
  replace HK := HK.below hb9
  replace BK := blk_below BK hb9
  replace HB := HB.trans (hb9.mono HB.size)
  have F9 := Kd.F_below F0 HB
  have G3 := Kd.F_below F3 HB
  have G4 := Kd.F_below F4 HB
  clear hb9 FO
  go_wp2_with fail
  go_loopg [8] (l0.length + 1) (fun kq v8 w' => ∃ (i : Nat), v8 = .int .i64 (i : Int) ∧ Aside0 (i + kq = l0.length + 1) ∧ Aside0 (i ≤ l0.length) ∧ Aside0 (kk.Blk w' g 39 (cap * 6)) ∧ Aside0 (w'.heap[gb]? = some (.cells #[.int .u32 a1_0, .int .u32 a1_1, .int .u32 a1_2, .slice A1_3 l1_3.length c1_3, .slice A1_4 l1_4.length c1_4, .bool a1_5] 39 (0, 0))) ∧ Aside0 (s2 = 0 → Kd.V k39 39 w' 0 (fun k => k ≠ g) va s1) ∧ Aside0 (Kd.F k39 w' (fun k => k < w.heap.size) A0 l0.length l0) ∧ Aside0 (Kd.F (Kd.int .u32) w' (fun k => k < w.heap.size) A1_3 l1_3.length l1_3) ∧ Aside0 (Kd.F k66 w' (fun k => k < w.heap.size) A1_4 l1_4.length l1_4) ∧ Aside0 (Below w.heap.size w w'))
  case atStart => exact ⟨0, rfl, ⟨Nat.zero_add _⟩, ⟨Nat.zero_le _⟩, ⟨HK⟩, ⟨BK⟩, ⟨hVa⟩, ⟨F9⟩, ⟨G3⟩, ⟨G4⟩, ⟨HB⟩⟩
  case round =>
    clear HK BK hVa F9 G3 G4 HB
    obtain ⟨i, rfl, HA, HI, HK, BK, HVa, HF, H3, H4, HB⟩ := hrel
    cases gk with
    | zero => have := HA.out; have := HI.out; omega
    | succ k2 =>
      by_cases c : i < l0.length
      · have A1 : i + 1 + k2 = l0.length + 1 := by have := HA.out; omega
        have A2 : i + 1 ≤ l0.length := by omega
        have A4 : k2 < k2 + 1 := Nat.lt_succ_self _
        have ic : i * 6 + 6 ≤ cap * 6 := by omega
        have cb : decide ((i : Int) < (l0.length : Int)) = true := decide_eq_true (by omega)
        have p1 : (0 ≤ (i : Int)) = True := eq_true (by omega)
        have p2 : ((i : Int) < (l0.length : Int)) = True := eq_true (by omega)
        have f2 : ∀ k, k ≠ g → k ≠ g := fun _ h => h
        obtain ⟨u0_, i0_, j0_⟩ := HK.out.cell (i * 6) (by omega)
        obtain ⟨u1_, i1_, j1_⟩ := HK.out.cell (i * 6 + 1) (by omega)
        obtain ⟨u2_, i2_, j2_⟩ := HK.out.cell (i * 6 + 2) (by omega)
        obtain ⟨u3_, i3_, j3_⟩ := HK.out.cell (i * 6 + 3) (by omega)
        obtain ⟨u4_, i4_, j4_⟩ := HK.out.cell (i * 6 + 4) (by omega)
        obtain ⟨u5_, i5_, j5_⟩ := HK.out.cell (i * 6 + 5) (by omega)
        clear ic
        have w58 : Value.int .i64 (wrap64 ((i : Int) + 1)) = Value.int .i64 ((i + 1 : Nat) : Int) := by rw [uk.w64 (by omega) (by omega)]; rfl
        go_wp2_with (first | ((with_reducible refine gate_store (t := 39) (p := 52) rfl ?_); refine store_event (t := 39) (p := 52) (v := ?vo_) (w1 := ((((((wr.setCell ⟨g, i * 6, none⟩ (.int .u32 99)).setCell ⟨g, i * 6 + 1, none⟩ (.int .u32 0)).setCell ⟨g, i * 6 + 2, none⟩ (.int .u32 0)).setCell ⟨g, i * 6 + 3, none⟩ (.slice none 0 0)).setCell ⟨g, i * 6 + 4, none⟩ (.slice none 0 0)).setCell ⟨g, i * 6 + 5, none⟩ (.bool false))) ?hg ?ho ?hn ?hr ?_; (case ho => rfl); (case hg => rfl); (case hn => rfl); (case hr => first | (go_simp; done) | (go_simp; rfl)); intro w7 hw; have HK7 := (by rw [hw]; exact ((((((HK.out.set (i * 6) _).set (i * 6 + 1) _).set (i * 6 + 2) _).set (i * 6 + 3) _).set (i * 6 + 4) _).set (i * 6 + 5) _) : kk.Blk w7 g 39 (cap * 6)); have BK7 := (by rw [hw]; exact (blk_far (p := ⟨g, i * 6 + 5, none⟩) (blk_far (p := ⟨g, i * 6 + 4, none⟩) (blk_far (p := ⟨g, i * 6 + 3, none⟩) (blk_far (p := ⟨g, i * 6 + 2, none⟩) (blk_far (p := ⟨g, i * 6 + 1, none⟩) (blk_far (p := ⟨g, i * 6, none⟩) BK.out hneg _) hneg _) hneg _) hneg _) hneg _) hneg _) : w7.heap[gb]? = some (.cells #[.int .u32 a1_0, .int .u32 a1_1, .int .u32 a1_2, .slice A1_3 l1_3.length c1_3, .slice A1_4 l1_4.length c1_4, .bool a1_5] 39 (0, 0))); have HVa7 := (fun h0 => by rw [hw]; exact (Kd.V_far (p := ⟨g, i * 6 + 5, none⟩) (Kd.V_far (p := ⟨g, i * 6 + 4, none⟩) (Kd.V_far (p := ⟨g, i * 6 + 3, none⟩) (Kd.V_far (p := ⟨g, i * 6 + 2, none⟩) (Kd.V_far (p := ⟨g, i * 6 + 1, none⟩) (Kd.V_far (p := ⟨g, i * 6, none⟩) (HVa.out h0) f2 _) f2 _) f2 _) f2 _) f2 _) f2 _) : s2 = 0 → Kd.V k39 39 w7 0 (fun k => k ≠ g) va s1); have HF7 := (by rw [hw]; exact (Kd.F_far (p := ⟨g, i * 6 + 5, none⟩) (Kd.F_far (p := ⟨g, i * 6 + 4, none⟩) (Kd.F_far (p := ⟨g, i * 6 + 3, none⟩) (Kd.F_far (p := ⟨g, i * 6 + 2, none⟩) (Kd.F_far (p := ⟨g, i * 6 + 1, none⟩) (Kd.F_far (p := ⟨g, i * 6, none⟩) HF.out hgw _) hgw _) hgw _) hgw _) hgw _) hgw _) : Kd.F k39 w7 (fun k => k < w.heap.size) A0 l0.length l0); have H37 := (by rw [hw]; exact (Kd.F_far (p := ⟨g, i * 6 + 5, none⟩) (Kd.F_far (p := ⟨g, i * 6 + 4, none⟩) (Kd.F_far (p := ⟨g, i * 6 + 3, none⟩) (Kd.F_far (p := ⟨g, i * 6 + 2, none⟩) (Kd.F_far (p := ⟨g, i * 6 + 1, none⟩) (Kd.F_far (p := ⟨g, i * 6, none⟩) H3.out hgw _) hgw _) hgw _) hgw _) hgw _) hgw _) : Kd.F (Kd.int .u32) w7 (fun k => k < w.heap.size) A1_3 l1_3.length l1_3); have H47 := (by rw [hw]; exact (Kd.F_far (p := ⟨g, i * 6 + 5, none⟩) (Kd.F_far (p := ⟨g, i * 6 + 4, none⟩) (Kd.F_far (p := ⟨g, i * 6 + 3, none⟩) (Kd.F_far (p := ⟨g, i * 6 + 2, none⟩) (Kd.F_far (p := ⟨g, i * 6 + 1, none⟩) (Kd.F_far (p := ⟨g, i * 6, none⟩) H4.out hgw _) hgw _) hgw _) hgw _) hgw _) hgw _) : Kd.F k66 w7 (fun k => k < w.heap.size) A1_4 l1_4.length l1_4); have HB7 := (by rw [hw]; exact (below_set (g := g) (j := i * 6 + 5) (v := .bool false) (below_set (g := g) (j := i * 6 + 4) (v := .slice none 0 0) (below_set (g := g) (j := i * 6 + 3) (v := .slice none 0 0) (below_set (g := g) (j := i * 6 + 2) (v := .int .u32 0) (below_set (g := g) (j := i * 6 + 1) (v := .int .u32 0) (below_set (g := g) (j := i * 6) (v := .int .u32 99) HB.out hg1) hg1) hg1) hg1) hg1) hg1) : Below w.heap.size w w7); clear hw i0_ j0_ i1_ j1_ i2_ j2_ i3_ j3_ i4_ j4_ i5_ j5_))
        go_roundg k2
        case measure => exact A4
        case rel => exact ⟨i + 1, (by first | exact w58 | rfl), ⟨A1⟩, ⟨A2⟩, ⟨HK7⟩, ⟨BK7⟩, ⟨HVa7⟩, ⟨HF7⟩, ⟨H37⟩, ⟨H47⟩, ⟨HB7⟩⟩
      · have cb : decide ((i : Int) < (l0.length : Int)) = false := decide_eq_false (by omega)
        have HF := HF.out
        have HB := HB.out
        have HVa := HVa.out
        have BK := BK.out
        have H3 := H3.out
        have H4 := H4.out
        clear HK HA HI
        have k0_ : wr.cell? ⟨gb, 0, none⟩ = some (.int .u32 a1_0) := (blk_cell BK 0).trans rfl
        have z0_ := blk_frozen BK 0
        have k1_ : wr.cell? ⟨gb, 1, none⟩ = some (.int .u32 a1_1) := (blk_cell BK 1).trans rfl
        have z1_ := blk_frozen BK 1
        have k2_ : wr.cell? ⟨gb, 2, none⟩ = some (.int .u32 a1_2) := (blk_cell BK 2).trans rfl
        have z2_ := blk_frozen BK 2
        have k3_ : wr.cell? ⟨gb, 3, none⟩ = some (.slice A1_3 l1_3.length c1_3) := (blk_cell BK 3).trans rfl
        have z3_ := blk_frozen BK 3
        have k4_ : wr.cell? ⟨gb, 4, none⟩ = some (.slice A1_4 l1_4.length c1_4) := (blk_cell BK 4).trans rfl
        have z4_ := blk_frozen BK 4
        have k5_ : wr.cell? ⟨gb, 5, none⟩ = some (.bool a1_5) := (blk_cell BK 5).trans rfl
        have z5_ := blk_frozen BK 5
        go_wp2_with fail
        refine (chamberlainref10_Set.calls 300 (fun k => k < w.heap.size) _ c0 l0 a1_0 a1_1 a1_2 (fun k => k < w.heap.size) A1_3 c1_3 l1_3 (fun k => k < w.heap.size) A1_4 c1_4 l1_4 a1_5 s1 s2 _ (Kd.V_mk hc0 HF) (Kd.V_mk hc1_3 H3) (Kd.V_mk hc1_4 H4) AC.out).mono ?_
        rintro e W10 ⟨vc, rfl, hNc, hb10⟩
        clear k0_ z0_ k1_ z1_ k2_ z2_ k3_ z3_ k4_ z4_ k5_ z5_
        replace HVa := fun h0 => Kd.V_below (HVa h0) hb10
        replace HB := HB.trans (hb10.mono HB.size)
        clear hb10 BK HF H3 H4 cb c
        obtain ⟨Ac, cc, rfl⟩ := Kd.N_slice hNc
        by_cases ea : s2 = 0
        · have za1 : (s2 == 0) = true := beq_iff_eq.mpr ea
          have za2 : (s2 != 0) = false := bne_eq_false_iff_eq.mpr ea
          replace HVa := HVa ea
          obtain ⟨Aa, ca, rfl⟩ := Kd.V_slice HVa
          clear ea
          go_wp2_with (first | (go_at_call 15; (with_reducible refine (chamberlainref10_Same.calls 400 _ _ s1 _ _ s1 true _ (Kd.V_reads' HVa).2.2 (Kd.V_reads' HVa).2.1 (Kd.N_reads' hNc).2.2 (Kd.N_reads' hNc).2.1 ASs.out).mono ?_); rintro e W11 ⟨rfl, hb⟩; replace HB := HB.trans (hb.mono HB.size); clear hb))
          go_ret
          exact ⟨by first | rfl | (simp; done) | (simp [*]; done), HB⟩
        · have za1 : (s2 == 0) = false := beq_eq_false_iff_ne.mpr ea
          have za2 : (s2 != 0) = true := bne_iff_ne.mpr ea
          clear ea
          go_wp2_with fail
          go_ret
          exact ⟨by first | rfl | (simp; done) | (simp [*]; done), HB⟩

end Go.Proofs.Ytlgbahgddpggfaa.PPeopleKeeps
