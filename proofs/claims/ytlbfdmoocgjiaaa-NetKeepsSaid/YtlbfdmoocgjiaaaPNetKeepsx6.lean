-- Written for this claim by wip/tools/myprint.py (print.py's forms; proofs of the faked functions by hand).
import Derived.Test.YtlbfdmoocgjiaaaPNetKeepsx1
import Derived.Test.YtlbfdmoocgjiaaaPNetKeepsx2
import Derived.Test.YtlbfdmoocgjiaaaPNetKeepsx3
import Derived.Test.YtlbfdmoocgjiaaaPNetKeepsx4
import Derived.Test.YtlbfdmoocgjiaaaPNetKeepsx5
import Derived.Test.YtlbfdmoocgjiaaaPNetKeepsx0
namespace Go.Proofs.Ytlbfdmoocgjiaaa.PNetKeeps
open Go.RowKit Go.Proofs.YtlbfdmoocgjiaaaW.PrintWords Go.Proofs.YtlbfdmoocgjiaaaW.PrintLast Go.Proofs.YtlbfdmoocgjiaaaW.PrintMore
attribute [local go_sem] max2_int min2_int max_two min_two max_three min_three max_four min_four   -- for this text's walks alone
set_option linter.unusedVariables false
set_option linter.unusedSimpArgs false

/-! ### chamberlainref06_Send: function 13 -/
def chamberlainref06_Send.f (a0_0 : Int) (l0_1 : List (S29)) (l0_2 : List (List Int)) (a1_0 : Int) (l1_1 : List Int) : Option (Int × (List (S29)) × (List (List Int)) × Int) := if (l0_1.length : Int) ≥ a0_0 then (some (a0_0, l0_1, l0_2, 10)) else ((some (([] : List (S29)) : List (S29))).bind fun y286 => (if y286.length + l0_1.length < 4398046511104 then ((some (y286 ++ l0_1 : List (S29))).bind fun y289 => ((some (([(⟨a1_0, l1_1⟩ : S29)] : List (S29)) : List (S29))).bind fun y292 => (if y289.length + y292.length < 4398046511104 then ((some (([] : List (List Int)) : List (List Int))).bind fun y298 => (if y298.length + l0_2.length < 5864062014805 then ((some (y298 ++ l0_2 : List (List Int))).bind fun y301 => ((some (([l1_1] : List (List Int)) : List (List Int))).bind fun y304 => (if y301.length + y304.length < 5864062014805 then (some (a0_0, (y289 ++ y292), (y301 ++ y304), 0)) else (none)))) else (none))) else (none)))) else (none)))
def chamberlainref06_Send.T3 : Bool × List (List Nat × List Nat) := (true, [([], []), ([], []), ([1], [1]), ([0, 2], [0, 2]), ([], []), ([4], [4]), ([3, 5, 3], [3, 5]), ([0, 1, 2, 3, 4, 5, 6], []), ([7, 6, 6, 0, 1, 2, 3, 4, 5, 6], [6, 7])])
def chamberlainref06_Send.B3 : List Nat := [0, 0, 2, 7, 0, 16, 63, 127, 255]
theorem chamberlainref06_Send.tab3 : rtab .any (opsOf Try.f13 3) = chamberlainref06_Send.T3 := by kernel_rfl
theorem chamberlainref06_Send.bits3 : waitsOk chamberlainref06_Send.T3.2 chamberlainref06_Send.B3 = true := by kernel_rfl
def chamberlainref06_Send.T4 : Bool × List (List Nat × List Nat) := (true, [([], []), ([], []), ([1], [1]), ([0, 2], [0, 2]), ([], []), ([4], [4]), ([5], [5]), ([3, 6, 3], [3, 6]), ([0, 1, 2, 3, 4, 5, 6, 7], []), ([8, 7, 7, 0, 1, 2, 3, 4, 5, 6, 7], [7, 8])])
def chamberlainref06_Send.B4 : List Nat := [0, 0, 2, 7, 0, 16, 48, 127, 255, 511]
theorem chamberlainref06_Send.tab4 : rtab .any (opsOf Try.f13 4) = chamberlainref06_Send.T4 := by kernel_rfl
theorem chamberlainref06_Send.bits4 : waitsOk chamberlainref06_Send.T4.2 chamberlainref06_Send.B4 = true := by kernel_rfl
set_option maxHeartbeats 8000000 in
set_option maxRecDepth 100000 in
theorem chamberlainref06_Send.calls (a0_0 : Int) (P0_1_ : Nat → Prop) (A0_1 : Option Addr) (c0_1 : Nat) (l0_1 : List (S29)) (P0_2_ : Nat → Prop) (A0_2 : Option Addr) (c0_2 : Nat) (l0_2 : List (List Int)) (a1_0 : Int) (P1_1_ : Nat → Prop) (A1_1 : Option Addr) (c1_1 : Nat) (l1_1 : List Int) (r1 : Int) (r2 : List (S29)) (r3 : List (List Int)) (r4 : Int) (w : World) (hs0_1 : Kd.V k29 29 w w.heap.size (fun k_ => P0_1_ k_) (.slice A0_1 l0_1.length c0_1) l0_1) (hs0_2 : Kd.V (Kd.slice 26 (Kd.int .u32)) 27 w w.heap.size (fun k_ => P0_2_ k_) (.slice A0_2 l0_2.length c0_2) l0_2) (hs1_1 : Kd.V (Kd.int .u32) 26 w w.heap.size (fun k_ => P1_1_ k_) (.slice A1_1 l1_1.length c1_1) l1_1) (h : chamberlainref06_Send.f a0_0 l0_1 l0_2 a1_0 l1_1 = some (r1, r2, r3, r4)) :
    Calls Try.prog 13 #[.agg #[.int .i64 a0_0, .slice A0_1 l0_1.length c0_1, .slice A0_2 l0_2.length c0_2], .agg #[.int .u32 a1_0, .slice A1_1 l1_1.length c1_1]] w fun e w' => ∃ v1_ v2_ : Value, e = .returned (.tuple #[.agg #[.int .i64 r1, v1_, v2_], .int .i64 r4]) ∧ Kd.V k29 29 w' w.heap.size (fun k_ => ((P0_1_ k_ ∨ P0_2_ k_ ∨ P1_1_ k_) ∨ w.heap.size ≤ k_)) v1_ r2 ∧ Kd.V (Kd.slice 26 (Kd.int .u32)) 27 w' w.heap.size (fun k_ => ((P0_1_ k_ ∨ P0_2_ k_ ∨ P1_1_ k_) ∨ w.heap.size ≤ k_)) v2_ r3 ∧ Below w.heap.size w w' := by
  have hu25 := Try.underlying25
  have hu29 := Try.underlying29
  have HO0_1 := Aside0.mk (show Kd.V k29 29 w w.heap.size (fun k_ => ((P0_1_ k_ ∨ P0_2_ k_ ∨ P1_1_ k_) ∨ w.heap.size ≤ k_)) (.slice A0_1 l0_1.length c0_1) l0_1 from Kd.V_mono hs0_1 (fun k_ hk => .inl (.inl hk)))
  have HO0_2 := Aside0.mk (show Kd.V (Kd.slice 26 (Kd.int .u32)) 27 w w.heap.size (fun k_ => ((P0_1_ k_ ∨ P0_2_ k_ ∨ P1_1_ k_) ∨ w.heap.size ≤ k_)) (.slice A0_2 l0_2.length c0_2) l0_2 from Kd.V_mono hs0_2 (fun k_ hk => .inl (.inr (.inl hk))))
  have HO1_1 := Aside0.mk (show Kd.V (Kd.int .u32) 26 w w.heap.size (fun k_ => ((P0_1_ k_ ∨ P0_2_ k_ ∨ P1_1_ k_) ∨ w.heap.size ≤ k_)) (.slice A1_1 l1_1.length c1_1) l1_1 from Kd.V_mono hs1_1 (fun k_ hk => .inl (.inr (.inr hk))))
  have HB := Aside0.mk (Below.refl w.heap.size w)
  have H : (if (l0_1.length : Int) ≥ a0_0 then (some (a0_0, l0_1, l0_2, 10)) else ((some (([] : List (S29)) : List (S29))).bind fun y286 => (if y286.length + l0_1.length < 4398046511104 then ((some (y286 ++ l0_1 : List (S29))).bind fun y289 => ((some (([(⟨a1_0, l1_1⟩ : S29)] : List (S29)) : List (S29))).bind fun y292 => (if y289.length + y292.length < 4398046511104 then ((some (([] : List (List Int)) : List (List Int))).bind fun y298 => (if y298.length + l0_2.length < 5864062014805 then ((some (y298 ++ l0_2 : List (List Int))).bind fun y301 => ((some (([l1_1] : List (List Int)) : List (List Int))).bind fun y304 => (if y301.length + y304.length < 5864062014805 then (some (a0_0, (y289 ++ y292), (y301 ++ y304), 0)) else (none)))) else (none))) else (none)))) else (none)))) = some (r1, r2, r3, r4) := h
  clear h
  by_cases c3 : (l0_1.length : Int) ≥ a0_0
  · rw [if_pos c3] at H
    have c3b0 : decide (a0_0 ≤ (l0_1.length : Int)) = true := decide_eq_true c3
    clear c3
    simp only [Option.some.injEq, Prod.mk.injEq] at H
    obtain ⟨rfl, rfl, rfl, rfl⟩ := H
    go_enter Try.func13, Try.ntmps13
    go_wp2_with (first | ((with_reducible refine gate_dst (N := 2) rfl ?_); refine box_event ?hg (N := 2) ?hd (cs := #[.int .i64 a0_0, .slice A0_1 l0_1.length c0_1, .slice A0_2 l0_2.length c0_2]) (t := 25) ?hr ?_; (case hd => rfl); (case hg => rfl); (case hr => first | (go_simp; done) | (go_simp; rfl)); intro gb283 hg w4 hbox hb; have n0_ := Aside0.mk (ve_ HO0_1.out gb283 hg hb); have n1_ := Aside0.mk (ve_ HO0_2.out gb283 hg hb); have n3_ := Aside0.mk (bs_ hb); have n4_ := Aside0.mk (hbox); have n6_ := Aside0.mk ((ge_ hg : w.heap.size ≤ gb283)); clear HO0_1 HO0_2 HO1_1 HB; have HO0_1 := n0_; have HO0_2 := n1_; have HB := n3_; have BK283 := n4_; have GE283 := n6_; clear n0_ n1_ n3_ n4_ n6_; clear hb hbox hg) | ((with_reducible refine gate_dst (N := 3) rfl ?_); refine box_event ?hg (N := 3) ?hd (cs := #[.int .u32 a1_0, .slice A1_1 l1_1.length c1_1]) (t := 29) ?hr ?_; (case hd => rfl); (case hg => rfl); (case hr => first | (go_simp; done) | (go_simp; rfl)); intro gb284 hg w5 hbox hb; have n0_ := Aside0.mk (ve_ HO0_1.out gb284 hg hb); have n1_ := Aside0.mk (ve_ HO0_2.out gb284 hg hb); have n3_ := Aside0.mk (bb_ BK283.out hb); have n4_ := Aside0.mk (bs_ hb); have n5_ := Aside0.mk (hbox); have n7_ := Aside0.mk ((ge_ hg : w.heap.size ≤ gb284)); have n8_ := Aside0.mk ((by rw [hg]; exact Nat.ne_of_lt (blk_lt (g := gb283) (o := .cells #[.int .i64 a0_0, .slice A0_1 l0_1.length c0_1, .slice A0_2 l0_2.length c0_2] 25 (0, 0)) (by (with_reducible repeat (first | refine blk_drewN ?_ _ | refine blk_drew ?_ | refine blk_alloc ?_ _)); exact BK283.out)) : gb283 ≠ gb284)); have n9_ := Aside0.mk ((by rw [hg]; exact Nat.ne_of_gt (blk_lt (g := gb283) (o := .cells #[.int .i64 a0_0, .slice A0_1 l0_1.length c0_1, .slice A0_2 l0_2.length c0_2] 25 (0, 0)) (by (with_reducible repeat (first | refine blk_drewN ?_ _ | refine blk_drew ?_ | refine blk_alloc ?_ _)); exact BK283.out)) : gb284 ≠ gb283)); clear HO0_1 HO0_2 BK283 HB; have HO0_1 := n0_; have HO0_2 := n1_; have BK283 := n3_; have HB := n4_; have BK284 := n5_; have GE284 := n7_; have NB283_284 := n8_; have NB284_283 := n9_; clear n0_ n1_ n3_ n4_ n5_ n7_ n8_ n9_; clear hb hbox hg) | ((with_reducible refine gate_dst (N := 4) rfl ?_); refine box_event ?hg (N := 4) ?hd (cs := #[.int .i64 0, .slice none 0 0, .slice none 0 0]) (t := 25) ?hr ?_; (case hd => rfl); (case hg => rfl); (case hr => first | (go_simp; done) | (go_simp; rfl)); intro gb285 hg w6 hbox hb; have n0_ := Aside0.mk (ve_ HO0_1.out gb285 hg hb); have n1_ := Aside0.mk (ve_ HO0_2.out gb285 hg hb); have n3_ := Aside0.mk (bb_ BK283.out hb); have n5_ := Aside0.mk (bs_ hb); have n6_ := Aside0.mk (hbox); have n8_ := Aside0.mk ((ge_ hg : w.heap.size ≤ gb285)); have n9_ := Aside0.mk ((by rw [hg]; exact Nat.ne_of_lt (blk_lt (g := gb283) (o := .cells #[.int .i64 a0_0, .slice A0_1 l0_1.length c0_1, .slice A0_2 l0_2.length c0_2] 25 (0, 0)) (by (with_reducible repeat (first | refine blk_drewN ?_ _ | refine blk_drew ?_ | refine blk_alloc ?_ _)); exact BK283.out)) : gb283 ≠ gb285)); have n10_ := Aside0.mk ((by rw [hg]; exact Nat.ne_of_gt (blk_lt (g := gb283) (o := .cells #[.int .i64 a0_0, .slice A0_1 l0_1.length c0_1, .slice A0_2 l0_2.length c0_2] 25 (0, 0)) (by (with_reducible repeat (first | refine blk_drewN ?_ _ | refine blk_drew ?_ | refine blk_alloc ?_ _)); exact BK283.out)) : gb285 ≠ gb283)); have n11_ := Aside0.mk ((by rw [hg]; exact Nat.ne_of_lt (blk_lt (g := gb284) (o := .cells #[.int .u32 a1_0, .slice A1_1 l1_1.length c1_1] 29 (0, 0)) (by (with_reducible repeat (first | refine blk_drewN ?_ _ | refine blk_drew ?_ | refine blk_alloc ?_ _)); exact BK284.out)) : gb284 ≠ gb285)); have n12_ := Aside0.mk ((by rw [hg]; exact Nat.ne_of_gt (blk_lt (g := gb284) (o := .cells #[.int .u32 a1_0, .slice A1_1 l1_1.length c1_1] 29 (0, 0)) (by (with_reducible repeat (first | refine blk_drewN ?_ _ | refine blk_drew ?_ | refine blk_alloc ?_ _)); exact BK284.out)) : gb285 ≠ gb284)); clear HO0_1 HO0_2 BK283 BK284 HB; have HO0_1 := n0_; have HO0_2 := n1_; have BK283 := n3_; have HB := n5_; have BK285 := n6_; have GE285 := n8_; have NB283_285 := n9_; have NB285_283 := n10_; have NB284_285 := n11_; have NB285_284 := n12_; clear n0_ n1_ n3_ n5_ n6_ n8_ n9_ n10_ n11_ n12_; clear hb hbox hg; have hnb7 := NB283_284.out; have hnc7 := NB284_283.out; have hnb8 := NB283_285.out; have hnc8 := NB285_283.out; have ⟨hcz9_0, hcz9_1, hcz9_2⟩ := cz3_ BK283.out; have ⟨hfz9_0, hfz9_1, hfz9_2⟩ := fz3_ BK283.out; have hnb10 := NB285_284.out; have hnc10 := NB284_285.out; have ⟨hcz11_0, hcz11_1, hcz11_2⟩ := cz3_ BK285.out; have ⟨hfz11_0, hfz11_1, hfz11_2⟩ := fz3_ BK285.out))
    refine bodyPost_ret (results_ct rfl _ _ gb285 25 #[.int .i64 a0_0, .slice A0_1 l0_1.length c0_1, .slice A0_2 l0_2.length c0_2] (0, 0) _ rfl (bp3_ BK285.out) Try.underlying25 rfl (by kernel_rfl)) rfl ?_
    exact ⟨_, _, by first | rfl | (simp [errW_none, errW_some] <;> rfl) | (simp [*, errW_none, errW_some] <;> rfl), by (with_reducible repeat (first | apply Kd.V_alloc | apply Kd.V_drewN | apply Kd.V_drew)); exact Kd.V_mono (v3_ (g := gb285) (Kd.V_mono HO0_1.out (fun k_ hk => (⟨hk, hk.2⟩ : _ ∧ k_ ≠ gb285)))) (fun _ hk => hk.1.1.1.1), by (with_reducible repeat (first | apply Kd.V_alloc | apply Kd.V_drewN | apply Kd.V_drew)); exact Kd.V_mono (v3_ (g := gb285) (Kd.V_mono HO0_2.out (fun k_ hk => (⟨hk, hk.2⟩ : _ ∧ k_ ≠ gb285)))) (fun _ hk => hk.1.1.1.1), by repeat (first | (with_reducible first | exact HB.out | apply below_alloc | apply pw_below_drewN | apply below_drew1 | refine below_set ?_ GE283.out | refine below_set ?_ GE284.out | refine below_set ?_ GE285.out) | exact HB.out)⟩
  · rw [if_neg c3] at H
    have c3b0 : decide (a0_0 ≤ (l0_1.length : Int)) = false := decide_eq_false c3
    clear c3
    obtain ⟨y286, hy286⟩ : ∃ y_ : List (S29), y_ = (([] : List (S29))) := ⟨_, rfl⟩
    replace H : (if y286.length + l0_1.length < 4398046511104 then ((some (y286 ++ l0_1 : List (S29))).bind fun y289 => ((some (([(⟨a1_0, l1_1⟩ : S29)] : List (S29)) : List (S29))).bind fun y292 => (if y289.length + y292.length < 4398046511104 then ((some (([] : List (List Int)) : List (List Int))).bind fun y298 => (if y298.length + l0_2.length < 5864062014805 then ((some (y298 ++ l0_2 : List (List Int))).bind fun y301 => ((some (([l1_1] : List (List Int)) : List (List Int))).bind fun y304 => (if y301.length + y304.length < 5864062014805 then (some (a0_0, (y289 ++ y292), (y301 ++ y304), 0)) else (none)))) else (none))) else (none)))) else (none)) = some (r1, r2, r3, r4) := by first | (rw [hy286]; with_reducible exact H) | (have H2_ := (Option.bind_some _ _).symm.trans H; rw [hy286]; with_reducible exact H2_) | (have H2_ := (Option.bind_some _ _).symm.trans H; with_reducible exact H2_) | with_reducible exact H | (rw [hy286]; exact H) | exact H
    have Ny286 := Aside0.mk hy286
    clear hy286
    by_cases c12 : y286.length + l0_1.length < 4398046511104
    · rw [if_pos c12] at H
      have LMc12 := Aside0.mk c12
      clear c12
      obtain ⟨y289, hy289⟩ : ∃ y_ : List (S29), y_ = (y286 ++ l0_1) := ⟨_, rfl⟩
      replace H : ((some (([(⟨a1_0, l1_1⟩ : S29)] : List (S29)) : List (S29))).bind fun y292 => (if y289.length + y292.length < 4398046511104 then ((some (([] : List (List Int)) : List (List Int))).bind fun y298 => (if y298.length + l0_2.length < 5864062014805 then ((some (y298 ++ l0_2 : List (List Int))).bind fun y301 => ((some (([l1_1] : List (List Int)) : List (List Int))).bind fun y304 => (if y301.length + y304.length < 5864062014805 then (some (a0_0, (y289 ++ y292), (y301 ++ y304), 0)) else (none)))) else (none))) else (none))) = some (r1, r2, r3, r4) := by first | (rw [hy289]; with_reducible exact H) | (have H2_ := (Option.bind_some _ _).symm.trans H; rw [hy289]; with_reducible exact H2_) | (have H2_ := (Option.bind_some _ _).symm.trans H; with_reducible exact H2_) | with_reducible exact H | (rw [hy289]; exact H) | exact H
      have Ny289 := Aside0.mk hy289
      clear hy289
      obtain ⟨y292, hy292⟩ : ∃ y_ : List (S29), y_ = (([(⟨a1_0, l1_1⟩ : S29)] : List (S29))) := ⟨_, rfl⟩
      replace H : (if y289.length + y292.length < 4398046511104 then ((some (([] : List (List Int)) : List (List Int))).bind fun y298 => (if y298.length + l0_2.length < 5864062014805 then ((some (y298 ++ l0_2 : List (List Int))).bind fun y301 => ((some (([l1_1] : List (List Int)) : List (List Int))).bind fun y304 => (if y301.length + y304.length < 5864062014805 then (some (a0_0, (y289 ++ y292), (y301 ++ y304), 0)) else (none)))) else (none))) else (none)) = some (r1, r2, r3, r4) := by first | (rw [hy292]; with_reducible exact H) | (have H2_ := (Option.bind_some _ _).symm.trans H; rw [hy292]; with_reducible exact H2_) | (have H2_ := (Option.bind_some _ _).symm.trans H; with_reducible exact H2_) | with_reducible exact H | (rw [hy292]; exact H) | exact H
      have Ny292 := Aside0.mk hy292
      clear hy292
      by_cases c13 : y289.length + y292.length < 4398046511104
      · rw [if_pos c13] at H
        have LMc13 := Aside0.mk c13
        clear c13
        obtain ⟨y295, hy295⟩ : ∃ y_ : List (S29), y_ = (y289 ++ y292) := ⟨_, rfl⟩
        replace H : ((some (([] : List (List Int)) : List (List Int))).bind fun y298 => (if y298.length + l0_2.length < 5864062014805 then ((some (y298 ++ l0_2 : List (List Int))).bind fun y301 => ((some (([l1_1] : List (List Int)) : List (List Int))).bind fun y304 => (if y301.length + y304.length < 5864062014805 then (some (a0_0, y295, (y301 ++ y304), 0)) else (none)))) else (none))) = some (r1, r2, r3, r4) := by first | (rw [hy295]; with_reducible exact H) | (have H2_ := (Option.bind_some _ _).symm.trans H; rw [hy295]; with_reducible exact H2_) | (have H2_ := (Option.bind_some _ _).symm.trans H; with_reducible exact H2_) | with_reducible exact H | (rw [hy295]; exact H) | exact H
        have Ny295 := Aside0.mk hy295
        clear hy295
        obtain ⟨y298, hy298⟩ : ∃ y_ : List (List Int), y_ = (([] : List (List Int))) := ⟨_, rfl⟩
        replace H : (if y298.length + l0_2.length < 5864062014805 then ((some (y298 ++ l0_2 : List (List Int))).bind fun y301 => ((some (([l1_1] : List (List Int)) : List (List Int))).bind fun y304 => (if y301.length + y304.length < 5864062014805 then (some (a0_0, y295, (y301 ++ y304), 0)) else (none)))) else (none)) = some (r1, r2, r3, r4) := by first | (rw [hy298]; with_reducible exact H) | (have H2_ := (Option.bind_some _ _).symm.trans H; rw [hy298]; with_reducible exact H2_) | (have H2_ := (Option.bind_some _ _).symm.trans H; with_reducible exact H2_) | with_reducible exact H | (rw [hy298]; exact H) | exact H
        have Ny298 := Aside0.mk hy298
        clear hy298
        by_cases c14 : y298.length + l0_2.length < 5864062014805
        · rw [if_pos c14] at H
          have LMc14 := Aside0.mk c14
          clear c14
          obtain ⟨y301, hy301⟩ : ∃ y_ : List (List Int), y_ = (y298 ++ l0_2) := ⟨_, rfl⟩
          replace H : ((some (([l1_1] : List (List Int)) : List (List Int))).bind fun y304 => (if y301.length + y304.length < 5864062014805 then (some (a0_0, y295, (y301 ++ y304), 0)) else (none))) = some (r1, r2, r3, r4) := by first | (rw [hy301]; with_reducible exact H) | (have H2_ := (Option.bind_some _ _).symm.trans H; rw [hy301]; with_reducible exact H2_) | (have H2_ := (Option.bind_some _ _).symm.trans H; with_reducible exact H2_) | with_reducible exact H | (rw [hy301]; exact H) | exact H
          have Ny301 := Aside0.mk hy301
          clear hy301
          obtain ⟨y304, hy304⟩ : ∃ y_ : List (List Int), y_ = (([l1_1] : List (List Int))) := ⟨_, rfl⟩
          replace H : (if y301.length + y304.length < 5864062014805 then (some (a0_0, y295, (y301 ++ y304), 0)) else (none)) = some (r1, r2, r3, r4) := by first | (rw [hy304]; with_reducible exact H) | (have H2_ := (Option.bind_some _ _).symm.trans H; rw [hy304]; with_reducible exact H2_) | (have H2_ := (Option.bind_some _ _).symm.trans H; with_reducible exact H2_) | with_reducible exact H | (rw [hy304]; exact H) | exact H
          have Ny304 := Aside0.mk hy304
          clear hy304
          by_cases c15 : y301.length + y304.length < 5864062014805
          · rw [if_pos c15] at H
            have LMc15 := Aside0.mk c15
            clear c15
            obtain ⟨y307, hy307⟩ : ∃ y_ : List (List Int), y_ = (y301 ++ y304) := ⟨_, rfl⟩
            replace H : (some (a0_0, y295, y307, 0)) = some (r1, r2, r3, r4) := by first | (rw [hy307]; with_reducible exact H) | (have H2_ := (Option.bind_some _ _).symm.trans H; rw [hy307]; with_reducible exact H2_) | (have H2_ := (Option.bind_some _ _).symm.trans H; with_reducible exact H2_) | with_reducible exact H | (rw [hy307]; exact H) | exact H
            have Ny307 := Aside0.mk hy307
            clear hy307
            simp only [Option.some.injEq, Prod.mk.injEq] at H
            obtain ⟨rfl, rfl, rfl, rfl⟩ := H
            go_enter Try.func13, Try.ntmps13
            try go_wp2_with (first | ((with_reducible refine gate_dst (N := 2) rfl ?_); refine box_event ?hg (N := 2) ?hd (cs := #[.int .i64 a0_0, .slice A0_1 l0_1.length c0_1, .slice A0_2 l0_2.length c0_2]) (t := 25) ?hr ?_; (case hd => rfl); (case hg => rfl); (case hr => first | (go_simp; done) | (go_simp; rfl)); intro gb283 hg w16 hbox hb; have n0_ := Aside0.mk (ve_ HO0_1.out gb283 hg hb); have n1_ := Aside0.mk (ve_ HO0_2.out gb283 hg hb); have n2_ := Aside0.mk (ve_ HO1_1.out gb283 hg hb); have n3_ := Aside0.mk (bs_ hb); have n4_ := Aside0.mk (hbox); have n6_ := Aside0.mk ((ge_ hg : w.heap.size ≤ gb283)); clear HO0_1 HO0_2 HO1_1 HB; have HO0_1 := n0_; have HO0_2 := n1_; have HO1_1 := n2_; have HB := n3_; have BK283 := n4_; have GE283 := n6_; clear n0_ n1_ n2_ n3_ n4_ n6_; clear hb hbox hg) | ((with_reducible refine gate_dst (N := 3) rfl ?_); refine box_event ?hg (N := 3) ?hd (cs := #[.int .u32 a1_0, .slice A1_1 l1_1.length c1_1]) (t := 29) ?hr ?_; (case hd => rfl); (case hg => rfl); (case hr => first | (go_simp; done) | (go_simp; rfl)); intro gb284 hg w17 hbox hb; have n0_ := Aside0.mk (ve_ HO0_1.out gb284 hg hb); have n1_ := Aside0.mk (ve_ HO0_2.out gb284 hg hb); have n2_ := Aside0.mk (ve_ HO1_1.out gb284 hg hb); have n3_ := Aside0.mk (bb_ BK283.out hb); have n4_ := Aside0.mk (bs_ hb); have n5_ := Aside0.mk (hbox); have n7_ := Aside0.mk ((ge_ hg : w.heap.size ≤ gb284)); have n8_ := Aside0.mk ((by rw [hg]; exact Nat.ne_of_lt (blk_lt (g := gb283) (o := .cells #[.int .i64 a0_0, .slice A0_1 l0_1.length c0_1, .slice A0_2 l0_2.length c0_2] 25 (0, 0)) (by (with_reducible repeat (first | refine blk_drewN ?_ _ | refine blk_drew ?_ | refine blk_alloc ?_ _)); exact BK283.out)) : gb283 ≠ gb284)); have n9_ := Aside0.mk ((by rw [hg]; exact Nat.ne_of_gt (blk_lt (g := gb283) (o := .cells #[.int .i64 a0_0, .slice A0_1 l0_1.length c0_1, .slice A0_2 l0_2.length c0_2] 25 (0, 0)) (by (with_reducible repeat (first | refine blk_drewN ?_ _ | refine blk_drew ?_ | refine blk_alloc ?_ _)); exact BK283.out)) : gb284 ≠ gb283)); clear HO0_1 HO0_2 HO1_1 BK283 HB; have HO0_1 := n0_; have HO0_2 := n1_; have HO1_1 := n2_; have BK283 := n3_; have HB := n4_; have BK284 := n5_; have GE284 := n7_; have NB283_284 := n8_; have NB284_283 := n9_; clear n0_ n1_ n2_ n3_ n4_ n5_ n7_ n8_ n9_; clear hb hbox hg) | ((with_reducible refine gate_dst (N := 4) rfl ?_); refine box_event ?hg (N := 4) ?hd (cs := #[.int .i64 0, .slice none 0 0, .slice none 0 0]) (t := 25) ?hr ?_; (case hd => rfl); (case hg => rfl); (case hr => first | (go_simp; done) | (go_simp; rfl)); intro gb285 hg w18 hbox hb; have n0_ := Aside0.mk (ve_ HO0_1.out gb285 hg hb); have n1_ := Aside0.mk (ve_ HO0_2.out gb285 hg hb); have n2_ := Aside0.mk (ve_ HO1_1.out gb285 hg hb); have n3_ := Aside0.mk (bb_ BK283.out hb); have n4_ := Aside0.mk (bb_ BK284.out hb); have n5_ := Aside0.mk (bs_ hb); have n6_ := Aside0.mk (hbox); have n8_ := Aside0.mk ((ge_ hg : w.heap.size ≤ gb285)); have n9_ := Aside0.mk ((by rw [hg]; exact Nat.ne_of_lt (blk_lt (g := gb283) (o := .cells #[.int .i64 a0_0, .slice A0_1 l0_1.length c0_1, .slice A0_2 l0_2.length c0_2] 25 (0, 0)) (by (with_reducible repeat (first | refine blk_drewN ?_ _ | refine blk_drew ?_ | refine blk_alloc ?_ _)); exact BK283.out)) : gb283 ≠ gb285)); have n10_ := Aside0.mk ((by rw [hg]; exact Nat.ne_of_gt (blk_lt (g := gb283) (o := .cells #[.int .i64 a0_0, .slice A0_1 l0_1.length c0_1, .slice A0_2 l0_2.length c0_2] 25 (0, 0)) (by (with_reducible repeat (first | refine blk_drewN ?_ _ | refine blk_drew ?_ | refine blk_alloc ?_ _)); exact BK283.out)) : gb285 ≠ gb283)); have n11_ := Aside0.mk ((by rw [hg]; exact Nat.ne_of_lt (blk_lt (g := gb284) (o := .cells #[.int .u32 a1_0, .slice A1_1 l1_1.length c1_1] 29 (0, 0)) (by (with_reducible repeat (first | refine blk_drewN ?_ _ | refine blk_drew ?_ | refine blk_alloc ?_ _)); exact BK284.out)) : gb284 ≠ gb285)); have n12_ := Aside0.mk ((by rw [hg]; exact Nat.ne_of_gt (blk_lt (g := gb284) (o := .cells #[.int .u32 a1_0, .slice A1_1 l1_1.length c1_1] 29 (0, 0)) (by (with_reducible repeat (first | refine blk_drewN ?_ _ | refine blk_drew ?_ | refine blk_alloc ?_ _)); exact BK284.out)) : gb285 ≠ gb284)); clear HO0_1 HO0_2 HO1_1 BK283 BK284 HB; have HO0_1 := n0_; have HO0_2 := n1_; have HO1_1 := n2_; have BK283 := n3_; have BK284 := n4_; have HB := n5_; have BK285 := n6_; have GE285 := n8_; have NB283_285 := n9_; have NB285_283 := n10_; have NB284_285 := n11_; have NB285_284 := n12_; clear n0_ n1_ n2_ n3_ n4_ n5_ n6_ n8_ n9_ n10_ n11_ n12_; clear hb hbox hg; have hnb19 := NB283_284.out; have hnc19 := NB284_283.out; have hnb20 := NB283_285.out; have hnc20 := NB285_283.out; have ⟨hcz21_0, hcz21_1, hcz21_2⟩ := cz3_ BK283.out; have ⟨hfz21_0, hfz21_1, hfz21_2⟩ := fz3_ BK283.out))
            have n0_ := Aside0.mk (Kd.V_drew HO0_1.out)
            have n1_ := Aside0.mk (Kd.V_drew HO0_2.out)
            have n2_ := Aside0.mk (Kd.V_drew HO1_1.out)
            have n3_ := Aside0.mk (blk_drew BK283.out)
            have n4_ := Aside0.mk (blk_drew BK284.out)
            have n5_ := Aside0.mk (blk_drew BK285.out)
            have n6_ := Aside0.mk (below_drew1 HB.out)
            clear HO0_1 HO0_2 HO1_1 BK283 BK284 BK285 HB
            have HO0_1 := n0_
            have HO0_2 := n1_
            have HO1_1 := n2_
            have BK283 := n3_
            have BK284 := n4_
            have BK285 := n5_
            have HB := n6_
            clear n0_ n1_ n2_ n3_ n4_ n5_ n6_
            refine start_ (n := 9) (S := fun w' => w'.cell? ⟨gb283, 0, none⟩ = some (.int .i64 a0_0) ∧ w'.cell? ⟨gb283, 1, none⟩ = some (.slice A0_1 l0_1.length c0_1) ∧ w'.cell? ⟨gb283, 2, none⟩ = some (.slice A0_2 l0_2.length c0_2) ∧ w'.cell? ⟨gb284, 0, none⟩ = some (.int .u32 a1_0) ∧ w'.cell? ⟨gb284, 1, none⟩ = some (.slice A1_1 l1_1.length c1_1)) (ds := [8]) #[false, false, false, false, false, false, false, false, false] (by kernel_rfl) rfl rfl ⟨(blk_cell BK283.out 0).trans rfl, (blk_cell BK283.out 1).trans rfl, (blk_cell BK283.out 2).trans rfl, (blk_cell BK284.out 0).trans rfl, (blk_cell BK284.out 1).trans rfl⟩ (fun hHeld => ?_); refine with_tabW chamberlainref06_Send.tab3 chamberlainref06_Send.bits3 (fun HT_ HW_ => ?_)
            generalize w18.drew = w22 at HO0_1 HO0_2 HO1_1 BK283 BK284 BK285 HB hHeld ⊢
            refine pure_ (i := 1) (N := some 14) (v := ?_) (a' := ?_) #[false, true, false, false, false, false, false, false, false] rfl rfl (any_of HT_.out (by kernel_rfl)) (fun _ _ _ h => h) (Or.inl ⟨by rfl, ?_⟩) ?_ ?_
            rotate_left
            · intro w'
              go_simp
              with_reducible rfl
            rotate_left
            · simp only [Act.put, List.setIfInBounds_toArray, List.set_cons_zero, List.set_cons_succ, i64_w, i32_w]
              rfl
            refine take_ (i := 2) (N := some 15) (v := ?_) (a' := ?_) #[false, true, true, false, false, false, false, false, false] rfl rfl (take_ofW HT_.out HW_.out (by kernel_rfl)) (fun _ _ _ h => h) (Or.inl ⟨by rfl, ?_⟩) hHeld ?_ ?_
            rotate_left
            · rintro w' ⟨s0, s1, s2, s3, s4⟩
              go_simp
              with_reducible rfl
            rotate_left
            · simp only [Act.put, List.setIfInBounds_toArray, List.set_cons_zero, List.set_cons_succ, i64_w, i32_w]
              rfl
            refine take_ (i := 4) (N := some 17) (v := ?_) (a' := ?_) #[false, true, true, false, true, false, false, false, false] rfl rfl (take_ofW HT_.out HW_.out (by kernel_rfl)) (fun _ _ _ h => h) (Or.inl ⟨by rfl, ?_⟩) hHeld ?_ ?_
            rotate_left
            · rintro w' ⟨s0, s1, s2, s3, s4⟩
              go_simp
              with_reducible rfl
            rotate_left
            · simp only [Act.put, List.setIfInBounds_toArray, List.set_cons_zero, List.set_cons_succ, i64_w, i32_w]
              rfl
            refine join_ (σ := Value × Value × Value) 3 #[true, true, true, true, true, true, false, false, false] (fun s_ => [(13, s_.1), (16, s_.2.1), (18, s_.2.2)]) (fun s_ w' => (w'.cell? ⟨gb283, 0, none⟩ = some (.int .i64 a0_0) ∧ w'.cell? ⟨gb283, 1, none⟩ = some (.slice A0_1 l0_1.length c0_1) ∧ w'.cell? ⟨gb283, 2, none⟩ = some (.slice A0_2 l0_2.length c0_2) ∧ w'.cell? ⟨gb284, 0, none⟩ = some (.int .u32 a1_0) ∧ w'.cell? ⟨gb284, 1, none⟩ = some (.slice A1_1 l1_1.length c1_1)) ∧ (Kd.V k29 29 w' w.heap.size (fun k_ => ((P0_1_ k_ ∨ P0_2_ k_ ∨ P1_1_ k_) ∨ w.heap.size ≤ k_) ∧ some k_ ≠ (s_.2.1 : Value).ownBlock ∧ some k_ ≠ (s_.2.2 : Value).ownBlock ∧ k_ ≠ gb283 ∧ k_ ≠ gb284 ∧ k_ ≠ gb285) (.slice A0_1 l0_1.length c0_1) l0_1) ∧ (Kd.V (Kd.slice 26 (Kd.int .u32)) 27 w' w.heap.size (fun k_ => ((P0_1_ k_ ∨ P0_2_ k_ ∨ P1_1_ k_) ∨ w.heap.size ≤ k_) ∧ some k_ ≠ (s_.2.1 : Value).ownBlock ∧ some k_ ≠ (s_.2.2 : Value).ownBlock ∧ k_ ≠ gb283 ∧ k_ ≠ gb284 ∧ k_ ≠ gb285) (.slice A0_2 l0_2.length c0_2) l0_2) ∧ (Kd.V (Kd.int .u32) 26 w' w.heap.size (fun k_ => ((P0_1_ k_ ∨ P0_2_ k_ ∨ P1_1_ k_) ∨ w.heap.size ≤ k_) ∧ some k_ ≠ (s_.2.1 : Value).ownBlock ∧ some k_ ≠ (s_.2.2 : Value).ownBlock ∧ k_ ≠ gb283 ∧ k_ ≠ gb284 ∧ k_ ≠ gb285) (.slice A1_1 l1_1.length c1_1) l1_1) ∧ (Kd.N k29 29 w' w.heap.size (fun k_ => ((P0_1_ k_ ∨ P0_2_ k_ ∨ P1_1_ k_) ∨ w.heap.size ≤ k_) ∧ some k_ ≠ (s_.2.2 : Value).ownBlock ∧ k_ ≠ gb283 ∧ k_ ≠ gb284 ∧ k_ ≠ gb285) s_.2.1 y289) ∧ (Kd.N k29 29 w' w.heap.size (fun k_ => ((P0_1_ k_ ∨ P0_2_ k_ ∨ P1_1_ k_) ∨ w.heap.size ≤ k_) ∧ some k_ ≠ (s_.2.1 : Value).ownBlock ∧ k_ ≠ gb283 ∧ k_ ≠ gb284 ∧ k_ ≠ gb285) s_.2.2 y292) ∧ (w'.heap[gb283]? = some (.cells #[.int .i64 a0_0, .slice A0_1 l0_1.length c0_1, .slice A0_2 l0_2.length c0_2] 25 (0, 0))) ∧ (w'.heap[gb284]? = some (.cells #[.int .u32 a1_0, .slice A1_1 l1_1.length c1_1] 29 (0, 0))) ∧ (w'.heap[gb285]? = some (.cells #[.int .i64 0, .slice none 0 0, .slice none 0 0] 25 (0, 0))) ∧ (Below w.heap.size w w')) ?_ ?_
            rotate_left
            · intro hCont
              refine two_ (i := 0) (j := 5) (Ni := some 13) (Nj := some 18) #[true, true, true, false, true, false, false, false, false] #[false, true, true, false, true, true, false, false, false] rfl rfl rfl rfl (two_of HT_.out (by kernel_rfl)) (by decide) (by decide) (fun K hK => ?_) (fun K hK => ?_)
              · skip
                refine Kd.N_lit_step k29 _ 29 ?hg (N' := 13) ?hd (xs := ([] : List (S29))) (inner := []) (ok := (fun k_ => ((P0_1_ k_ ∨ P0_2_ k_ ∨ P1_1_ k_) ∨ w.heap.size ≤ k_) ∧ k_ ≠ gb283 ∧ k_ ≠ gb284 ∧ k_ ≠ gb285)) (okp := (fun k_ => ((P0_1_ k_ ∨ P0_2_ k_ ∨ P1_1_ k_) ∨ w.heap.size ≤ k_) ∧ k_ ≠ gb283 ∧ k_ ≠ gb284 ∧ k_ ≠ gb285)) ?hr ?hp (fun _ hk => hk) ((show ∀ k_, w22.heap.size ≤ k_ → (fun k_ => ((P0_1_ k_ ∨ P0_2_ k_ ∨ P1_1_ k_) ∨ w.heap.size ≤ k_) ∧ k_ ≠ gb283 ∧ k_ ≠ gb284 ∧ k_ ≠ gb285) k_ from fun k_ hk => ⟨(.inr (Nat.le_trans (below_size (by repeat (first | (with_reducible first | exact HB.out | apply below_alloc | apply pw_below_drewN | apply below_drew1 | refine below_set ?_ GE283.out | refine below_set ?_ GE284.out | refine below_set ?_ GE285.out) | exact HB.out))) hk)), fb_ BK283.out k_ hk, fb_ BK284.out k_ hk, fb_ BK285.out k_ hk⟩) _ (Nat.le_refl _)) (Below.refl _ _) (Nat.le_refl _) (by simp) ?_; (case hd => rfl); (case hg => rfl); (case hr => first | (go_simp; done) | (go_simp; rfl)); (case hp => exact (Reps.none _ _))
                intro v287 w23 ho24 hb hg_ hnew_
                clear hg_ hnew_
                (first | rw [← Ny286.out] at ho24 | (simp only [Int.reduceToNat] at ho24; rw [← Ny286.out] at ho24))
                have n0_ := Aside0.mk (vf_ HO0_1.out (Kd.N_base ho24) hb)
                have n1_ := Aside0.mk (vf_ HO0_2.out (Kd.N_base ho24) hb)
                have n2_ := Aside0.mk (vf_ HO1_1.out (Kd.N_base ho24) hb)
                have n3_ := Aside0.mk (Kd.N_lower ho24 (below_size (by repeat (first | (with_reducible first | exact HB.out | apply below_alloc | apply pw_below_drewN | apply below_drew1 | refine below_set ?_ GE283.out | refine below_set ?_ GE284.out | refine below_set ?_ GE285.out) | exact HB.out))))
                have n4_ := Aside0.mk (bb_ BK283.out hb)
                have n5_ := Aside0.mk (bb_ BK284.out hb)
                have n6_ := Aside0.mk (bb_ BK285.out hb)
                have n7_ := Aside0.mk (bs_ hb)
                clear HO0_1 HO0_2 HO1_1 BK283 BK284 BK285 HB
                have HO0_1 := n0_
                have HO0_2 := n1_
                have HO1_1 := n2_
                have HO288 := n3_
                have BK283 := n4_
                have BK284 := n5_
                have BK285 := n6_
                have HB := n7_
                clear n0_ n1_ n2_ n3_ n4_ n5_ n6_ n7_
                clear hb ho24
                refine hK.out _ _ ⟨(blk_cell BK283.out 0).trans rfl, (blk_cell BK283.out 1).trans rfl, (blk_cell BK283.out 2).trans rfl, (blk_cell BK284.out 0).trans rfl, (blk_cell BK284.out 1).trans rfl⟩ (fun hHeld => ?_)
                clear hK K
                refine norm_ (a' := ?_) ?_ ?_
                rotate_left
                · show Act.put _ (some 13) _ = _
                  simp only [Act.put, List.setIfInBounds_toArray, List.set_cons_zero, List.set_cons_succ, i64_w, i32_w]
                  rfl
                refine two_ (i := 3) (j := 5) (Ni := some 16) (Nj := some 18) #[true, true, true, true, true, false, false, false, false] #[true, true, true, false, true, true, false, false, false] rfl rfl rfl rfl (two_of HT_.out (by kernel_rfl)) (by decide) (by decide) (fun K hK => ?_) (fun K hK => ?_)
                · skip
                  refine Kd.N_append_rows_step k29 (w0 := w) w.heap.size (by rfl) (.tmp 13) (.tmp 15) 22 29 (.agg #[(.int .u32 0), (.slice none 0 0)]) 32 rfl Try.underlying22 info29 rfl (by decide) (by omega) v287 y286 l0_1 _ _ _ (fun k_ => ((P0_1_ k_ ∨ P0_2_ k_ ∨ P1_1_ k_) ∨ w.heap.size ≤ k_) ∧ k_ ≠ gb283 ∧ k_ ≠ gb284 ∧ k_ ≠ gb285) (fun k_ => ((fun k_ => ((P0_1_ k_ ∨ P0_2_ k_ ∨ P1_1_ k_) ∨ w.heap.size ≤ k_) ∧ k_ ≠ gb283 ∧ k_ ≠ gb284 ∧ k_ ≠ gb285)) k_ ∧ some k_ ≠ (v287 : Value).ownBlock) rfl rfl ?aO ?aR (fun _ hk => hk) ?aF ?aB ?aS ?aL ?_
                  (case aR => exact (by skip; exact Kd.V_F (Kd.V_mono (ok' := (fun k_ => ((fun k_ => ((P0_1_ k_ ∨ P0_2_ k_ ∨ P1_1_ k_) ∨ w.heap.size ≤ k_) ∧ k_ ≠ gb283 ∧ k_ ≠ gb284 ∧ k_ ≠ gb285)) k_ ∧ some k_ ≠ (v287 : Value).ownBlock)) (HO0_1.out) (fun k_ hk => ⟨⟨hk.1.1.1.1, ⟨hk.1.1.1.2, ⟨hk.1.1.2, hk.1.2⟩⟩⟩, hk.2⟩))))
                  (case aB => exact (by repeat (first | (with_reducible first | exact HB.out | apply below_alloc | apply pw_below_drewN | apply below_drew1 | refine below_set ?_ GE283.out | refine below_set ?_ GE284.out | refine below_set ?_ GE285.out) | exact HB.out)))
                  (case aF => exact (fun k_ hk => ⟨(.inr (Nat.le_trans (below_size (by repeat (first | (with_reducible first | exact HB.out | apply below_alloc | apply pw_below_drewN | apply below_drew1 | refine below_set ?_ GE283.out | refine below_set ?_ GE284.out | refine below_set ?_ GE285.out) | exact HB.out))) hk)), fb_ BK283.out k_ hk, fb_ BK284.out k_ hk, fb_ BK285.out k_ hk⟩))
                  (case aO => exact (by (with_reducible repeat (first | apply Kd.N_alloc | apply Kd.N_drewN | apply Kd.N_drew)); exact HO288.out))
                  (case aS => exact (below_size (by repeat (first | (with_reducible first | exact HB.out | apply below_alloc | apply pw_below_drewN | apply below_drew1 | refine below_set ?_ GE283.out | refine below_set ?_ GE284.out | refine below_set ?_ GE285.out) | exact HB.out))))
                  (case aL => have := LMc12.out; omega)
                  intro v290 w25 ho hb hg hat
                  rw [← Ny289.out] at ho
                  have n0_ := Aside0.mk (Kd.V_afterv (ok := (fun k_ => ((P0_1_ k_ ∨ P0_2_ k_ ∨ P1_1_ k_) ∨ w.heap.size ≤ k_) ∧ k_ ≠ gb283 ∧ k_ ≠ gb284 ∧ k_ ≠ gb285)) (by (with_reducible repeat (first | apply Kd.V_alloc | apply Kd.V_drewN | apply Kd.V_drew)); exact Kd.V_mono HO0_1.out (fun _ hk => ⟨⟨hk.1.1.1.1, ⟨hk.1.1.1.2, ⟨hk.1.1.2, hk.1.2⟩⟩⟩, hk.2⟩)) hg hat)
                  have n1_ := Aside0.mk (Kd.V_afterv (ok := (fun k_ => ((P0_1_ k_ ∨ P0_2_ k_ ∨ P1_1_ k_) ∨ w.heap.size ≤ k_) ∧ k_ ≠ gb283 ∧ k_ ≠ gb284 ∧ k_ ≠ gb285)) (by (with_reducible repeat (first | apply Kd.V_alloc | apply Kd.V_drewN | apply Kd.V_drew)); exact Kd.V_mono HO0_2.out (fun _ hk => ⟨⟨hk.1.1.1.1, ⟨hk.1.1.1.2, ⟨hk.1.1.2, hk.1.2⟩⟩⟩, hk.2⟩)) hg hat)
                  have n2_ := Aside0.mk (Kd.V_afterv (ok := (fun k_ => ((P0_1_ k_ ∨ P0_2_ k_ ∨ P1_1_ k_) ∨ w.heap.size ≤ k_) ∧ k_ ≠ gb283 ∧ k_ ≠ gb284 ∧ k_ ≠ gb285)) (by (with_reducible repeat (first | apply Kd.V_alloc | apply Kd.V_drewN | apply Kd.V_drew)); exact Kd.V_mono HO1_1.out (fun _ hk => ⟨⟨hk.1.1.1.1, ⟨hk.1.1.1.2, ⟨hk.1.1.2, hk.1.2⟩⟩⟩, hk.2⟩)) hg hat)
                  have n3_ := Aside0.mk (blk_grown (g := gb283) (o := .cells #[.int .i64 a0_0, .slice A0_1 l0_1.length c0_1, .slice A0_2 l0_2.length c0_2] 25 (0, 0)) (by (with_reducible repeat (first | refine blk_drewN ?_ _ | refine blk_drew ?_ | refine blk_alloc ?_ _)); exact BK283.out) hg (Kd.N_ne HO288.out BK283.out (by decide)))
                  have n4_ := Aside0.mk (blk_grown (g := gb284) (o := .cells #[.int .u32 a1_0, .slice A1_1 l1_1.length c1_1] 29 (0, 0)) (by (with_reducible repeat (first | refine blk_drewN ?_ _ | refine blk_drew ?_ | refine blk_alloc ?_ _)); exact BK284.out) hg (Kd.N_away HO288.out (fun _ hk => hk.2.2.1)))
                  have n5_ := Aside0.mk (blk_grown (g := gb285) (o := .cells #[.int .i64 0, .slice none 0 0, .slice none 0 0] 25 (0, 0)) (by (with_reducible repeat (first | refine blk_drewN ?_ _ | refine blk_drew ?_ | refine blk_alloc ?_ _)); exact BK285.out) hg (Kd.N_ne HO288.out BK285.out (by decide)))
                  have n6_ := Aside0.mk (hb)
                  have n7_ := Aside0.mk (ho)
                  clear HO0_1 HO0_2 HO1_1 BK283 BK284 BK285 HB HO288
                  have HO0_1 := n0_
                  have HO0_2 := n1_
                  have HO1_1 := n2_
                  have BK283 := n3_
                  have BK284 := n4_
                  have BK285 := n5_
                  have HB := n6_
                  have HO291 := n7_
                  clear n0_ n1_ n2_ n3_ n4_ n5_ n6_ n7_
                  clear ho hb hg hat
                  refine hK.out _ _ ⟨(blk_cell BK283.out 0).trans rfl, (blk_cell BK283.out 1).trans rfl, (blk_cell BK283.out 2).trans rfl, (blk_cell BK284.out 0).trans rfl, (blk_cell BK284.out 1).trans rfl⟩ (fun hHeld => ?_)
                  clear hK K
                  refine norm_ (a' := ?_) ?_ ?_
                  rotate_left
                  · show Act.put _ (some 16) _ = _
                    simp only [Act.put, List.setIfInBounds_toArray, List.set_cons_zero, List.set_cons_succ, i64_w, i32_w]
                    rfl
                  refine one_ (i := 5) (N := some 18) #[true, true, true, true, true, true, false, false, false] rfl rfl (one_of HT_.out (by kernel_rfl)) (by decide) (fun K hK => ?_)
                  refine Kd.N_lit_step k29 _ 29 ?hg (N' := 18) ?hd (xs := ([(⟨a1_0, l1_1⟩ : S29)] : List (S29))) (inner := [.int .u32 a1_0, .slice A1_1 l1_1.length c1_1]) (ok := (fun k_ => ((P0_1_ k_ ∨ P0_2_ k_ ∨ P1_1_ k_) ∨ w.heap.size ≤ k_) ∧ some k_ ≠ (v290 : Value).ownBlock ∧ k_ ≠ gb283 ∧ k_ ≠ gb284 ∧ k_ ≠ gb285)) (okp := (fun k_ => ((P0_1_ k_ ∨ P0_2_ k_ ∨ P1_1_ k_) ∨ w.heap.size ≤ k_) ∧ some k_ ≠ (v290 : Value).ownBlock ∧ k_ ≠ gb283 ∧ k_ ≠ gb284 ∧ k_ ≠ gb285)) ?hr ?hp (fun _ hk => hk) ((show ∀ k_, w25.heap.size ≤ k_ → (fun k_ => ((P0_1_ k_ ∨ P0_2_ k_ ∨ P1_1_ k_) ∨ w.heap.size ≤ k_) ∧ some k_ ≠ (v290 : Value).ownBlock ∧ k_ ≠ gb283 ∧ k_ ≠ gb284 ∧ k_ ≠ gb285) k_ from fun k_ hk => ⟨(.inr (Nat.le_trans (below_size (by repeat (first | (with_reducible first | exact HB.out | apply below_alloc | apply pw_below_drewN | apply below_drew1 | refine below_set ?_ GE283.out | refine below_set ?_ GE284.out | refine below_set ?_ GE285.out) | exact HB.out))) hk)), Kd.fresh' (Kd.N_lt (by (with_reducible repeat (first | apply Kd.N_alloc | apply Kd.N_drewN | apply Kd.N_drew)); exact HO291.out)) k_ hk, fb_ BK283.out k_ hk, fb_ BK284.out k_ hk, fb_ BK285.out k_ hk⟩) _ (Nat.le_refl _)) (Below.refl _ _) (Nat.le_refl _) (by simp) ?_; (case hd => rfl); (case hg => rfl); (case hr => first | (go_simp; done) | (go_simp; rfl)); (case hp => exact (Reps.c2 (show Kd.FK k29 _ _ (⟨a1_0, l1_1⟩ : S29) [.int .u32 a1_0, .slice A1_1 l1_1.length c1_1] from (k29_mkF _ _ (⟨a1_0, l1_1⟩ : S29) (Kd.V_reads' (Kd.V_mono (ok' := (fun k_ => ((P0_1_ k_ ∨ P0_2_ k_ ∨ P1_1_ k_) ∨ w.heap.size ≤ k_) ∧ some k_ ≠ (v290 : Value).ownBlock ∧ k_ ≠ gb283 ∧ k_ ≠ gb284 ∧ k_ ≠ gb285)) (HO1_1.out) (fun k_ hk => ⟨hk.1.1, ⟨hk.2, ⟨hk.1.2.1, ⟨hk.1.2.2.1, hk.1.2.2.2⟩⟩⟩⟩))).2.1 (Kd.V_F (Kd.V_mono (ok' := (fun k_ => ((P0_1_ k_ ∨ P0_2_ k_ ∨ P1_1_ k_) ∨ w.heap.size ≤ k_) ∧ some k_ ≠ (v290 : Value).ownBlock ∧ k_ ≠ gb283 ∧ k_ ≠ gb284 ∧ k_ ≠ gb285)) (HO1_1.out) (fun k_ hk => ⟨hk.1.1, ⟨hk.2, ⟨hk.1.2.1, ⟨hk.1.2.2.1, hk.1.2.2.2⟩⟩⟩⟩))))) (Reps.none _ _)))
                  intro v293 w26 ho27 hb hg_ hnew_
                  clear hg_ hnew_
                  (first | rw [← Ny292.out] at ho27 | (simp only [Int.reduceToNat] at ho27; rw [← Ny292.out] at ho27))
                  have n0_ := Aside0.mk (vf_ HO0_1.out (Kd.N_base ho27) hb)
                  have n1_ := Aside0.mk (vf_ HO0_2.out (Kd.N_base ho27) hb)
                  have n2_ := Aside0.mk (vf_ HO1_1.out (Kd.N_base ho27) hb)
                  have n3_ := Aside0.mk (nf_ HO291.out (Kd.N_base ho27) hb)
                  have n4_ := Aside0.mk (Kd.N_lower ho27 (below_size (by repeat (first | (with_reducible first | exact HB.out | apply below_alloc | apply pw_below_drewN | apply below_drew1 | refine below_set ?_ GE283.out | refine below_set ?_ GE284.out | refine below_set ?_ GE285.out) | exact HB.out))))
                  have n5_ := Aside0.mk (bb_ BK283.out hb)
                  have n6_ := Aside0.mk (bb_ BK284.out hb)
                  have n7_ := Aside0.mk (bb_ BK285.out hb)
                  have n8_ := Aside0.mk (bs_ hb)
                  clear HO0_1 HO0_2 HO1_1 HO291 BK283 BK284 BK285 HB
                  have HO0_1 := n0_
                  have HO0_2 := n1_
                  have HO1_1 := n2_
                  have HO291 := n3_
                  have HO294 := n4_
                  have BK283 := n5_
                  have BK284 := n6_
                  have BK285 := n7_
                  have HB := n8_
                  clear n0_ n1_ n2_ n3_ n4_ n5_ n6_ n7_ n8_
                  clear hb ho27
                  refine hK.out _ _ ⟨(blk_cell BK283.out 0).trans rfl, (blk_cell BK283.out 1).trans rfl, (blk_cell BK283.out 2).trans rfl, (blk_cell BK284.out 0).trans rfl, (blk_cell BK284.out 1).trans rfl⟩ (fun hHeld => ?_)
                  clear hK K
                  refine norm_ (a' := ?_) ?_ ?_
                  rotate_left
                  · show Act.put _ (some 18) _ = _
                    simp only [Act.put, List.setIfInBounds_toArray, List.set_cons_zero, List.set_cons_succ, i64_w, i32_w]
                    rfl
                  exact norm_ (by simp only [putAll, Act.put, List.setIfInBounds_toArray, List.set_cons_zero, List.set_cons_succ]) (hCont (v287, v290, v293) _ ⟨hHeld, (by (with_reducible repeat (first | apply Kd.V_alloc | apply Kd.V_drewN | apply Kd.V_drew)); exact Kd.V_mono HO0_1.out (fun _ hk => ⟨hk.1.1.1, ⟨hk.1.2, ⟨hk.2, ⟨hk.1.1.2.1, ⟨hk.1.1.2.2.1, hk.1.1.2.2.2⟩⟩⟩⟩⟩)), (by (with_reducible repeat (first | apply Kd.V_alloc | apply Kd.V_drewN | apply Kd.V_drew)); exact Kd.V_mono HO0_2.out (fun _ hk => ⟨hk.1.1.1, ⟨hk.1.2, ⟨hk.2, ⟨hk.1.1.2.1, ⟨hk.1.1.2.2.1, hk.1.1.2.2.2⟩⟩⟩⟩⟩)), (by (with_reducible repeat (first | apply Kd.V_alloc | apply Kd.V_drewN | apply Kd.V_drew)); exact Kd.V_mono HO1_1.out (fun _ hk => ⟨hk.1.1.1, ⟨hk.1.2, ⟨hk.2, ⟨hk.1.1.2.1, ⟨hk.1.1.2.2.1, hk.1.1.2.2.2⟩⟩⟩⟩⟩)), (by (with_reducible repeat (first | apply Kd.N_alloc | apply Kd.N_drewN | apply Kd.N_drew)); exact Kd.N_mono HO291.out (fun _ hk => ⟨hk.1.1, ⟨hk.2, ⟨hk.1.2.1, ⟨hk.1.2.2.1, hk.1.2.2.2⟩⟩⟩⟩)), (by (with_reducible repeat (first | apply Kd.N_alloc | apply Kd.N_drewN | apply Kd.N_drew)); exact HO294.out), (by (with_reducible repeat (first | refine blk_drewN ?_ _ | refine blk_drew ?_ | refine blk_alloc ?_ _)); exact BK283.out), (by (with_reducible repeat (first | refine blk_drewN ?_ _ | refine blk_drew ?_ | refine blk_alloc ?_ _)); exact BK284.out), (by (with_reducible repeat (first | refine blk_drewN ?_ _ | refine blk_drew ?_ | refine blk_alloc ?_ _)); exact BK285.out), (by repeat (first | (with_reducible first | exact HB.out | apply below_alloc | apply pw_below_drewN | apply below_drew1 | refine below_set ?_ GE283.out | refine below_set ?_ GE284.out | refine below_set ?_ GE285.out) | exact HB.out))⟩)
                · skip
                  refine Kd.N_lit_step k29 _ 29 ?hg (N' := 18) ?hd (xs := ([(⟨a1_0, l1_1⟩ : S29)] : List (S29))) (inner := [.int .u32 a1_0, .slice A1_1 l1_1.length c1_1]) (ok := (fun k_ => ((P0_1_ k_ ∨ P0_2_ k_ ∨ P1_1_ k_) ∨ w.heap.size ≤ k_) ∧ some k_ ≠ (v287 : Value).ownBlock ∧ k_ ≠ gb283 ∧ k_ ≠ gb284 ∧ k_ ≠ gb285)) (okp := (fun k_ => ((P0_1_ k_ ∨ P0_2_ k_ ∨ P1_1_ k_) ∨ w.heap.size ≤ k_) ∧ some k_ ≠ (v287 : Value).ownBlock ∧ k_ ≠ gb283 ∧ k_ ≠ gb284 ∧ k_ ≠ gb285)) ?hr ?hp (fun _ hk => hk) ((show ∀ k_, w23.heap.size ≤ k_ → (fun k_ => ((P0_1_ k_ ∨ P0_2_ k_ ∨ P1_1_ k_) ∨ w.heap.size ≤ k_) ∧ some k_ ≠ (v287 : Value).ownBlock ∧ k_ ≠ gb283 ∧ k_ ≠ gb284 ∧ k_ ≠ gb285) k_ from fun k_ hk => ⟨(.inr (Nat.le_trans (below_size (by repeat (first | (with_reducible first | exact HB.out | apply below_alloc | apply pw_below_drewN | apply below_drew1 | refine below_set ?_ GE283.out | refine below_set ?_ GE284.out | refine below_set ?_ GE285.out) | exact HB.out))) hk)), Kd.fresh' (Kd.N_lt (by (with_reducible repeat (first | apply Kd.N_alloc | apply Kd.N_drewN | apply Kd.N_drew)); exact HO288.out)) k_ hk, fb_ BK283.out k_ hk, fb_ BK284.out k_ hk, fb_ BK285.out k_ hk⟩) _ (Nat.le_refl _)) (Below.refl _ _) (Nat.le_refl _) (by simp) ?_; (case hd => rfl); (case hg => rfl); (case hr => first | (go_simp; done) | (go_simp; rfl)); (case hp => exact (Reps.c2 (show Kd.FK k29 _ _ (⟨a1_0, l1_1⟩ : S29) [.int .u32 a1_0, .slice A1_1 l1_1.length c1_1] from (k29_mkF _ _ (⟨a1_0, l1_1⟩ : S29) (Kd.V_reads' (Kd.V_mono (ok' := (fun k_ => ((P0_1_ k_ ∨ P0_2_ k_ ∨ P1_1_ k_) ∨ w.heap.size ≤ k_) ∧ some k_ ≠ (v287 : Value).ownBlock ∧ k_ ≠ gb283 ∧ k_ ≠ gb284 ∧ k_ ≠ gb285)) (HO1_1.out) (fun k_ hk => ⟨hk.1.1.1.1, ⟨hk.2, ⟨hk.1.1.1.2, ⟨hk.1.1.2, hk.1.2⟩⟩⟩⟩))).2.1 (Kd.V_F (Kd.V_mono (ok' := (fun k_ => ((P0_1_ k_ ∨ P0_2_ k_ ∨ P1_1_ k_) ∨ w.heap.size ≤ k_) ∧ some k_ ≠ (v287 : Value).ownBlock ∧ k_ ≠ gb283 ∧ k_ ≠ gb284 ∧ k_ ≠ gb285)) (HO1_1.out) (fun k_ hk => ⟨hk.1.1.1.1, ⟨hk.2, ⟨hk.1.1.1.2, ⟨hk.1.1.2, hk.1.2⟩⟩⟩⟩))))) (Reps.none _ _)))
                  intro v293 w25 ho26 hb hg_ hnew_
                  clear hg_ hnew_
                  (first | rw [← Ny292.out] at ho26 | (simp only [Int.reduceToNat] at ho26; rw [← Ny292.out] at ho26))
                  have n0_ := Aside0.mk (vf_ HO0_1.out (Kd.N_base ho26) hb)
                  have n1_ := Aside0.mk (vf_ HO0_2.out (Kd.N_base ho26) hb)
                  have n2_ := Aside0.mk (vf_ HO1_1.out (Kd.N_base ho26) hb)
                  have n3_ := Aside0.mk (nf_ HO288.out (Kd.N_base ho26) hb)
                  have n4_ := Aside0.mk (Kd.N_lower ho26 (below_size (by repeat (first | (with_reducible first | exact HB.out | apply below_alloc | apply pw_below_drewN | apply below_drew1 | refine below_set ?_ GE283.out | refine below_set ?_ GE284.out | refine below_set ?_ GE285.out) | exact HB.out))))
                  have n5_ := Aside0.mk (bb_ BK283.out hb)
                  have n6_ := Aside0.mk (bb_ BK284.out hb)
                  have n7_ := Aside0.mk (bb_ BK285.out hb)
                  have n8_ := Aside0.mk (bs_ hb)
                  clear HO0_1 HO0_2 HO1_1 HO288 BK283 BK284 BK285 HB
                  have HO0_1 := n0_
                  have HO0_2 := n1_
                  have HO1_1 := n2_
                  have HO288 := n3_
                  have HO294 := n4_
                  have BK283 := n5_
                  have BK284 := n6_
                  have BK285 := n7_
                  have HB := n8_
                  clear n0_ n1_ n2_ n3_ n4_ n5_ n6_ n7_ n8_
                  clear hb ho26
                  refine hK.out _ _ ⟨(blk_cell BK283.out 0).trans rfl, (blk_cell BK283.out 1).trans rfl, (blk_cell BK283.out 2).trans rfl, (blk_cell BK284.out 0).trans rfl, (blk_cell BK284.out 1).trans rfl⟩ (fun hHeld => ?_)
                  clear hK K
                  refine norm_ (a' := ?_) ?_ ?_
                  rotate_left
                  · show Act.put _ (some 18) _ = _
                    simp only [Act.put, List.setIfInBounds_toArray, List.set_cons_zero, List.set_cons_succ, i64_w, i32_w]
                    rfl
                  refine one_ (i := 3) (N := some 16) #[true, true, true, true, true, true, false, false, false] rfl rfl (one_of HT_.out (by kernel_rfl)) (by decide) (fun K hK => ?_)
                  refine Kd.N_append_rows_step k29 (w0 := w) w.heap.size (by rfl) (.tmp 13) (.tmp 15) 22 29 (.agg #[(.int .u32 0), (.slice none 0 0)]) 32 rfl Try.underlying22 info29 rfl (by decide) (by omega) v287 y286 l0_1 _ _ _ (fun k_ => ((P0_1_ k_ ∨ P0_2_ k_ ∨ P1_1_ k_) ∨ w.heap.size ≤ k_) ∧ some k_ ≠ (v293 : Value).ownBlock ∧ k_ ≠ gb283 ∧ k_ ≠ gb284 ∧ k_ ≠ gb285) (fun k_ => ((fun k_ => ((P0_1_ k_ ∨ P0_2_ k_ ∨ P1_1_ k_) ∨ w.heap.size ≤ k_) ∧ some k_ ≠ (v293 : Value).ownBlock ∧ k_ ≠ gb283 ∧ k_ ≠ gb284 ∧ k_ ≠ gb285)) k_ ∧ some k_ ≠ (v287 : Value).ownBlock) rfl rfl ?aO ?aR (fun _ hk => hk) ?aF ?aB ?aS ?aL ?_
                  (case aR => exact (by skip; exact Kd.V_F (Kd.V_mono (ok' := (fun k_ => ((fun k_ => ((P0_1_ k_ ∨ P0_2_ k_ ∨ P1_1_ k_) ∨ w.heap.size ≤ k_) ∧ some k_ ≠ (v293 : Value).ownBlock ∧ k_ ≠ gb283 ∧ k_ ≠ gb284 ∧ k_ ≠ gb285)) k_ ∧ some k_ ≠ (v287 : Value).ownBlock)) (HO0_1.out) (fun k_ hk => ⟨⟨hk.1.1.1.1.1, ⟨hk.2, ⟨hk.1.1.1.1.2, ⟨hk.1.1.1.2, hk.1.1.2⟩⟩⟩⟩, hk.1.2⟩))))
                  (case aB => exact (by repeat (first | (with_reducible first | exact HB.out | apply below_alloc | apply pw_below_drewN | apply below_drew1 | refine below_set ?_ GE283.out | refine below_set ?_ GE284.out | refine below_set ?_ GE285.out) | exact HB.out)))
                  (case aF => exact (fun k_ hk => ⟨(.inr (Nat.le_trans (below_size (by repeat (first | (with_reducible first | exact HB.out | apply below_alloc | apply pw_below_drewN | apply below_drew1 | refine below_set ?_ GE283.out | refine below_set ?_ GE284.out | refine below_set ?_ GE285.out) | exact HB.out))) hk)), Kd.fresh' (Kd.N_lt (by (with_reducible repeat (first | apply Kd.N_alloc | apply Kd.N_drewN | apply Kd.N_drew)); exact HO294.out)) k_ hk, fb_ BK283.out k_ hk, fb_ BK284.out k_ hk, fb_ BK285.out k_ hk⟩))
                  (case aO => exact (by (with_reducible repeat (first | apply Kd.N_alloc | apply Kd.N_drewN | apply Kd.N_drew)); exact Kd.N_mono HO288.out (fun _ hk => ⟨hk.1.1, ⟨hk.2, ⟨hk.1.2.1, ⟨hk.1.2.2.1, hk.1.2.2.2⟩⟩⟩⟩)))
                  (case aS => exact (below_size (by repeat (first | (with_reducible first | exact HB.out | apply below_alloc | apply pw_below_drewN | apply below_drew1 | refine below_set ?_ GE283.out | refine below_set ?_ GE284.out | refine below_set ?_ GE285.out) | exact HB.out))))
                  (case aL => have := LMc12.out; omega)
                  intro v290 w27 ho hb hg hat
                  rw [← Ny289.out] at ho
                  have n0_ := Aside0.mk (Kd.V_afterv (ok := (fun k_ => ((P0_1_ k_ ∨ P0_2_ k_ ∨ P1_1_ k_) ∨ w.heap.size ≤ k_) ∧ some k_ ≠ (v293 : Value).ownBlock ∧ k_ ≠ gb283 ∧ k_ ≠ gb284 ∧ k_ ≠ gb285)) (by (with_reducible repeat (first | apply Kd.V_alloc | apply Kd.V_drewN | apply Kd.V_drew)); exact Kd.V_mono HO0_1.out (fun _ hk => ⟨⟨hk.1.1.1.1.1, ⟨hk.2, ⟨hk.1.1.1.1.2, ⟨hk.1.1.1.2, hk.1.1.2⟩⟩⟩⟩, hk.1.2⟩)) hg hat)
                  have n1_ := Aside0.mk (Kd.V_afterv (ok := (fun k_ => ((P0_1_ k_ ∨ P0_2_ k_ ∨ P1_1_ k_) ∨ w.heap.size ≤ k_) ∧ some k_ ≠ (v293 : Value).ownBlock ∧ k_ ≠ gb283 ∧ k_ ≠ gb284 ∧ k_ ≠ gb285)) (by (with_reducible repeat (first | apply Kd.V_alloc | apply Kd.V_drewN | apply Kd.V_drew)); exact Kd.V_mono HO0_2.out (fun _ hk => ⟨⟨hk.1.1.1.1.1, ⟨hk.2, ⟨hk.1.1.1.1.2, ⟨hk.1.1.1.2, hk.1.1.2⟩⟩⟩⟩, hk.1.2⟩)) hg hat)
                  have n2_ := Aside0.mk (Kd.V_afterv (ok := (fun k_ => ((P0_1_ k_ ∨ P0_2_ k_ ∨ P1_1_ k_) ∨ w.heap.size ≤ k_) ∧ some k_ ≠ (v293 : Value).ownBlock ∧ k_ ≠ gb283 ∧ k_ ≠ gb284 ∧ k_ ≠ gb285)) (by (with_reducible repeat (first | apply Kd.V_alloc | apply Kd.V_drewN | apply Kd.V_drew)); exact Kd.V_mono HO1_1.out (fun _ hk => ⟨⟨hk.1.1.1.1.1, ⟨hk.2, ⟨hk.1.1.1.1.2, ⟨hk.1.1.1.2, hk.1.1.2⟩⟩⟩⟩, hk.1.2⟩)) hg hat)
                  have n3_ := Aside0.mk (blk_grown (g := gb283) (o := .cells #[.int .i64 a0_0, .slice A0_1 l0_1.length c0_1, .slice A0_2 l0_2.length c0_2] 25 (0, 0)) (by (with_reducible repeat (first | refine blk_drewN ?_ _ | refine blk_drew ?_ | refine blk_alloc ?_ _)); exact BK283.out) hg (Kd.N_ne HO288.out BK283.out (by decide)))
                  have n4_ := Aside0.mk (blk_grown (g := gb284) (o := .cells #[.int .u32 a1_0, .slice A1_1 l1_1.length c1_1] 29 (0, 0)) (by (with_reducible repeat (first | refine blk_drewN ?_ _ | refine blk_drew ?_ | refine blk_alloc ?_ _)); exact BK284.out) hg (Kd.N_away HO288.out (fun _ hk => hk.1.2.2.1)))
                  have n5_ := Aside0.mk (blk_grown (g := gb285) (o := .cells #[.int .i64 0, .slice none 0 0, .slice none 0 0] 25 (0, 0)) (by (with_reducible repeat (first | refine blk_drewN ?_ _ | refine blk_drew ?_ | refine blk_alloc ?_ _)); exact BK285.out) hg (Kd.N_ne HO288.out BK285.out (by decide)))
                  have n6_ := Aside0.mk (Kd.N_afterv (ok := (fun k_ => ((P0_1_ k_ ∨ P0_2_ k_ ∨ P1_1_ k_) ∨ w.heap.size ≤ k_) ∧ k_ ≠ gb283 ∧ k_ ≠ gb284 ∧ k_ ≠ gb285)) (by (with_reducible repeat (first | apply Kd.N_alloc | apply Kd.N_drewN | apply Kd.N_drew)); exact Kd.N_mono HO294.out (fun _ hk => ⟨⟨hk.1, ⟨hk.2.2.1, ⟨hk.2.2.2.1, hk.2.2.2.2⟩⟩⟩, hk.2.1⟩)) hg hat)
                  have n7_ := Aside0.mk (hb)
                  have n8_ := Aside0.mk (ho)
                  clear HO0_1 HO0_2 HO1_1 BK283 BK284 BK285 HO294 HB HO288
                  have HO0_1 := n0_
                  have HO0_2 := n1_
                  have HO1_1 := n2_
                  have BK283 := n3_
                  have BK284 := n4_
                  have BK285 := n5_
                  have HO294 := n6_
                  have HB := n7_
                  have HO291 := n8_
                  clear n0_ n1_ n2_ n3_ n4_ n5_ n6_ n7_ n8_
                  clear ho hb hg hat
                  refine hK.out _ _ ⟨(blk_cell BK283.out 0).trans rfl, (blk_cell BK283.out 1).trans rfl, (blk_cell BK283.out 2).trans rfl, (blk_cell BK284.out 0).trans rfl, (blk_cell BK284.out 1).trans rfl⟩ (fun hHeld => ?_)
                  clear hK K
                  refine norm_ (a' := ?_) ?_ ?_
                  rotate_left
                  · show Act.put _ (some 16) _ = _
                    simp only [Act.put, List.setIfInBounds_toArray, List.set_cons_zero, List.set_cons_succ, i64_w, i32_w]
                    rfl
                  exact norm_ (by simp only [putAll, Act.put, List.setIfInBounds_toArray, List.set_cons_zero, List.set_cons_succ]) (hCont (v287, v290, v293) _ ⟨hHeld, (by (with_reducible repeat (first | apply Kd.V_alloc | apply Kd.V_drewN | apply Kd.V_drew)); exact Kd.V_mono HO0_1.out (fun _ hk => ⟨hk.1.1, ⟨hk.2, ⟨hk.1.2.1, ⟨hk.1.2.2.1, ⟨hk.1.2.2.2.1, hk.1.2.2.2.2⟩⟩⟩⟩⟩)), (by (with_reducible repeat (first | apply Kd.V_alloc | apply Kd.V_drewN | apply Kd.V_drew)); exact Kd.V_mono HO0_2.out (fun _ hk => ⟨hk.1.1, ⟨hk.2, ⟨hk.1.2.1, ⟨hk.1.2.2.1, ⟨hk.1.2.2.2.1, hk.1.2.2.2.2⟩⟩⟩⟩⟩)), (by (with_reducible repeat (first | apply Kd.V_alloc | apply Kd.V_drewN | apply Kd.V_drew)); exact Kd.V_mono HO1_1.out (fun _ hk => ⟨hk.1.1, ⟨hk.2, ⟨hk.1.2.1, ⟨hk.1.2.2.1, ⟨hk.1.2.2.2.1, hk.1.2.2.2.2⟩⟩⟩⟩⟩)), (by (with_reducible repeat (first | apply Kd.N_alloc | apply Kd.N_drewN | apply Kd.N_drew)); exact HO291.out), (by (with_reducible repeat (first | apply Kd.N_alloc | apply Kd.N_drewN | apply Kd.N_drew)); exact Kd.N_mono HO294.out (fun _ hk => ⟨hk.1.1, ⟨hk.2, ⟨hk.1.2.1, ⟨hk.1.2.2.1, hk.1.2.2.2⟩⟩⟩⟩)), (by (with_reducible repeat (first | refine blk_drewN ?_ _ | refine blk_drew ?_ | refine blk_alloc ?_ _)); exact BK283.out), (by (with_reducible repeat (first | refine blk_drewN ?_ _ | refine blk_drew ?_ | refine blk_alloc ?_ _)); exact BK284.out), (by (with_reducible repeat (first | refine blk_drewN ?_ _ | refine blk_drew ?_ | refine blk_alloc ?_ _)); exact BK285.out), (by repeat (first | (with_reducible first | exact HB.out | apply below_alloc | apply pw_below_drewN | apply below_drew1 | refine below_set ?_ GE283.out | refine below_set ?_ GE284.out | refine below_set ?_ GE285.out) | exact HB.out))⟩)
              · skip
                refine Kd.N_lit_step k29 _ 29 ?hg (N' := 18) ?hd (xs := ([(⟨a1_0, l1_1⟩ : S29)] : List (S29))) (inner := [.int .u32 a1_0, .slice A1_1 l1_1.length c1_1]) (ok := (fun k_ => ((P0_1_ k_ ∨ P0_2_ k_ ∨ P1_1_ k_) ∨ w.heap.size ≤ k_) ∧ k_ ≠ gb283 ∧ k_ ≠ gb284 ∧ k_ ≠ gb285)) (okp := (fun k_ => ((P0_1_ k_ ∨ P0_2_ k_ ∨ P1_1_ k_) ∨ w.heap.size ≤ k_) ∧ k_ ≠ gb283 ∧ k_ ≠ gb284 ∧ k_ ≠ gb285)) ?hr ?hp (fun _ hk => hk) ((show ∀ k_, w22.heap.size ≤ k_ → (fun k_ => ((P0_1_ k_ ∨ P0_2_ k_ ∨ P1_1_ k_) ∨ w.heap.size ≤ k_) ∧ k_ ≠ gb283 ∧ k_ ≠ gb284 ∧ k_ ≠ gb285) k_ from fun k_ hk => ⟨(.inr (Nat.le_trans (below_size (by repeat (first | (with_reducible first | exact HB.out | apply below_alloc | apply pw_below_drewN | apply below_drew1 | refine below_set ?_ GE283.out | refine below_set ?_ GE284.out | refine below_set ?_ GE285.out) | exact HB.out))) hk)), fb_ BK283.out k_ hk, fb_ BK284.out k_ hk, fb_ BK285.out k_ hk⟩) _ (Nat.le_refl _)) (Below.refl _ _) (Nat.le_refl _) (by simp) ?_; (case hd => rfl); (case hg => rfl); (case hr => first | (go_simp; done) | (go_simp; rfl)); (case hp => exact (Reps.c2 (show Kd.FK k29 _ _ (⟨a1_0, l1_1⟩ : S29) [.int .u32 a1_0, .slice A1_1 l1_1.length c1_1] from (k29_mkF _ _ (⟨a1_0, l1_1⟩ : S29) (Kd.V_reads' (Kd.V_mono (ok' := (fun k_ => ((P0_1_ k_ ∨ P0_2_ k_ ∨ P1_1_ k_) ∨ w.heap.size ≤ k_) ∧ k_ ≠ gb283 ∧ k_ ≠ gb284 ∧ k_ ≠ gb285)) (HO1_1.out) (fun k_ hk => ⟨hk.1.1.1, ⟨hk.1.1.2, ⟨hk.1.2, hk.2⟩⟩⟩))).2.1 (Kd.V_F (Kd.V_mono (ok' := (fun k_ => ((P0_1_ k_ ∨ P0_2_ k_ ∨ P1_1_ k_) ∨ w.heap.size ≤ k_) ∧ k_ ≠ gb283 ∧ k_ ≠ gb284 ∧ k_ ≠ gb285)) (HO1_1.out) (fun k_ hk => ⟨hk.1.1.1, ⟨hk.1.1.2, ⟨hk.1.2, hk.2⟩⟩⟩))))) (Reps.none _ _)))
                intro v293 w23 ho24 hb hg_ hnew_
                clear hg_ hnew_
                (first | rw [← Ny292.out] at ho24 | (simp only [Int.reduceToNat] at ho24; rw [← Ny292.out] at ho24))
                have n0_ := Aside0.mk (vf_ HO0_1.out (Kd.N_base ho24) hb)
                have n1_ := Aside0.mk (vf_ HO0_2.out (Kd.N_base ho24) hb)
                have n2_ := Aside0.mk (vf_ HO1_1.out (Kd.N_base ho24) hb)
                have n3_ := Aside0.mk (Kd.N_lower ho24 (below_size (by repeat (first | (with_reducible first | exact HB.out | apply below_alloc | apply pw_below_drewN | apply below_drew1 | refine below_set ?_ GE283.out | refine below_set ?_ GE284.out | refine below_set ?_ GE285.out) | exact HB.out))))
                have n4_ := Aside0.mk (bb_ BK283.out hb)
                have n5_ := Aside0.mk (bb_ BK284.out hb)
                have n6_ := Aside0.mk (bb_ BK285.out hb)
                have n7_ := Aside0.mk (bs_ hb)
                clear HO0_1 HO0_2 HO1_1 BK283 BK284 BK285 HB
                have HO0_1 := n0_
                have HO0_2 := n1_
                have HO1_1 := n2_
                have HO294 := n3_
                have BK283 := n4_
                have BK284 := n5_
                have BK285 := n6_
                have HB := n7_
                clear n0_ n1_ n2_ n3_ n4_ n5_ n6_ n7_
                clear hb ho24
                refine hK.out _ _ ⟨(blk_cell BK283.out 0).trans rfl, (blk_cell BK283.out 1).trans rfl, (blk_cell BK283.out 2).trans rfl, (blk_cell BK284.out 0).trans rfl, (blk_cell BK284.out 1).trans rfl⟩ (fun hHeld => ?_)
                clear hK K
                refine norm_ (a' := ?_) ?_ ?_
                rotate_left
                · show Act.put _ (some 18) _ = _
                  simp only [Act.put, List.setIfInBounds_toArray, List.set_cons_zero, List.set_cons_succ, i64_w, i32_w]
                  rfl
                refine one_ (i := 0) (N := some 13) #[true, true, true, false, true, true, false, false, false] rfl rfl (one_of HT_.out (by kernel_rfl)) (by decide) (fun K hK => ?_)
                refine Kd.N_lit_step k29 _ 29 ?hg (N' := 13) ?hd (xs := ([] : List (S29))) (inner := []) (ok := (fun k_ => ((P0_1_ k_ ∨ P0_2_ k_ ∨ P1_1_ k_) ∨ w.heap.size ≤ k_) ∧ some k_ ≠ (v293 : Value).ownBlock ∧ k_ ≠ gb283 ∧ k_ ≠ gb284 ∧ k_ ≠ gb285)) (okp := (fun k_ => ((P0_1_ k_ ∨ P0_2_ k_ ∨ P1_1_ k_) ∨ w.heap.size ≤ k_) ∧ some k_ ≠ (v293 : Value).ownBlock ∧ k_ ≠ gb283 ∧ k_ ≠ gb284 ∧ k_ ≠ gb285)) ?hr ?hp (fun _ hk => hk) ((show ∀ k_, w23.heap.size ≤ k_ → (fun k_ => ((P0_1_ k_ ∨ P0_2_ k_ ∨ P1_1_ k_) ∨ w.heap.size ≤ k_) ∧ some k_ ≠ (v293 : Value).ownBlock ∧ k_ ≠ gb283 ∧ k_ ≠ gb284 ∧ k_ ≠ gb285) k_ from fun k_ hk => ⟨(.inr (Nat.le_trans (below_size (by repeat (first | (with_reducible first | exact HB.out | apply below_alloc | apply pw_below_drewN | apply below_drew1 | refine below_set ?_ GE283.out | refine below_set ?_ GE284.out | refine below_set ?_ GE285.out) | exact HB.out))) hk)), Kd.fresh' (Kd.N_lt (by (with_reducible repeat (first | apply Kd.N_alloc | apply Kd.N_drewN | apply Kd.N_drew)); exact HO294.out)) k_ hk, fb_ BK283.out k_ hk, fb_ BK284.out k_ hk, fb_ BK285.out k_ hk⟩) _ (Nat.le_refl _)) (Below.refl _ _) (Nat.le_refl _) (by simp) ?_; (case hd => rfl); (case hg => rfl); (case hr => first | (go_simp; done) | (go_simp; rfl)); (case hp => exact (Reps.none _ _))
                intro v287 w25 ho26 hb hg_ hnew_
                clear hg_ hnew_
                (first | rw [← Ny286.out] at ho26 | (simp only [Int.reduceToNat] at ho26; rw [← Ny286.out] at ho26))
                have n0_ := Aside0.mk (vf_ HO0_1.out (Kd.N_base ho26) hb)
                have n1_ := Aside0.mk (vf_ HO0_2.out (Kd.N_base ho26) hb)
                have n2_ := Aside0.mk (vf_ HO1_1.out (Kd.N_base ho26) hb)
                have n3_ := Aside0.mk (nf_ HO294.out (Kd.N_base ho26) hb)
                have n4_ := Aside0.mk (Kd.N_lower ho26 (below_size (by repeat (first | (with_reducible first | exact HB.out | apply below_alloc | apply pw_below_drewN | apply below_drew1 | refine below_set ?_ GE283.out | refine below_set ?_ GE284.out | refine below_set ?_ GE285.out) | exact HB.out))))
                have n5_ := Aside0.mk (bb_ BK283.out hb)
                have n6_ := Aside0.mk (bb_ BK284.out hb)
                have n7_ := Aside0.mk (bb_ BK285.out hb)
                have n8_ := Aside0.mk (bs_ hb)
                clear HO0_1 HO0_2 HO1_1 HO294 BK283 BK284 BK285 HB
                have HO0_1 := n0_
                have HO0_2 := n1_
                have HO1_1 := n2_
                have HO294 := n3_
                have HO288 := n4_
                have BK283 := n5_
                have BK284 := n6_
                have BK285 := n7_
                have HB := n8_
                clear n0_ n1_ n2_ n3_ n4_ n5_ n6_ n7_ n8_
                clear hb ho26
                refine hK.out _ _ ⟨(blk_cell BK283.out 0).trans rfl, (blk_cell BK283.out 1).trans rfl, (blk_cell BK283.out 2).trans rfl, (blk_cell BK284.out 0).trans rfl, (blk_cell BK284.out 1).trans rfl⟩ (fun hHeld => ?_)
                clear hK K
                refine norm_ (a' := ?_) ?_ ?_
                rotate_left
                · show Act.put _ (some 13) _ = _
                  simp only [Act.put, List.setIfInBounds_toArray, List.set_cons_zero, List.set_cons_succ, i64_w, i32_w]
                  rfl
                refine one_ (i := 3) (N := some 16) #[true, true, true, true, true, true, false, false, false] rfl rfl (one_of HT_.out (by kernel_rfl)) (by decide) (fun K hK => ?_)
                refine Kd.N_append_rows_step k29 (w0 := w) w.heap.size (by rfl) (.tmp 13) (.tmp 15) 22 29 (.agg #[(.int .u32 0), (.slice none 0 0)]) 32 rfl Try.underlying22 info29 rfl (by decide) (by omega) v287 y286 l0_1 _ _ _ (fun k_ => ((P0_1_ k_ ∨ P0_2_ k_ ∨ P1_1_ k_) ∨ w.heap.size ≤ k_) ∧ some k_ ≠ (v293 : Value).ownBlock ∧ k_ ≠ gb283 ∧ k_ ≠ gb284 ∧ k_ ≠ gb285) (fun k_ => ((fun k_ => ((P0_1_ k_ ∨ P0_2_ k_ ∨ P1_1_ k_) ∨ w.heap.size ≤ k_) ∧ some k_ ≠ (v293 : Value).ownBlock ∧ k_ ≠ gb283 ∧ k_ ≠ gb284 ∧ k_ ≠ gb285)) k_ ∧ some k_ ≠ (v287 : Value).ownBlock) rfl rfl ?aO ?aR (fun _ hk => hk) ?aF ?aB ?aS ?aL ?_
                (case aR => exact (by skip; exact Kd.V_F (Kd.V_mono (ok' := (fun k_ => ((fun k_ => ((P0_1_ k_ ∨ P0_2_ k_ ∨ P1_1_ k_) ∨ w.heap.size ≤ k_) ∧ some k_ ≠ (v293 : Value).ownBlock ∧ k_ ≠ gb283 ∧ k_ ≠ gb284 ∧ k_ ≠ gb285)) k_ ∧ some k_ ≠ (v287 : Value).ownBlock)) (HO0_1.out) (fun k_ hk => ⟨⟨hk.1.1.1.1.1, ⟨hk.1.2, ⟨hk.1.1.1.1.2, ⟨hk.1.1.1.2, hk.1.1.2⟩⟩⟩⟩, hk.2⟩))))
                (case aB => exact (by repeat (first | (with_reducible first | exact HB.out | apply below_alloc | apply pw_below_drewN | apply below_drew1 | refine below_set ?_ GE283.out | refine below_set ?_ GE284.out | refine below_set ?_ GE285.out) | exact HB.out)))
                (case aF => exact (fun k_ hk => ⟨(.inr (Nat.le_trans (below_size (by repeat (first | (with_reducible first | exact HB.out | apply below_alloc | apply pw_below_drewN | apply below_drew1 | refine below_set ?_ GE283.out | refine below_set ?_ GE284.out | refine below_set ?_ GE285.out) | exact HB.out))) hk)), Kd.fresh' (Kd.N_lt (by (with_reducible repeat (first | apply Kd.N_alloc | apply Kd.N_drewN | apply Kd.N_drew)); exact HO294.out)) k_ hk, fb_ BK283.out k_ hk, fb_ BK284.out k_ hk, fb_ BK285.out k_ hk⟩))
                (case aO => exact (by (with_reducible repeat (first | apply Kd.N_alloc | apply Kd.N_drewN | apply Kd.N_drew)); exact HO288.out))
                (case aS => exact (below_size (by repeat (first | (with_reducible first | exact HB.out | apply below_alloc | apply pw_below_drewN | apply below_drew1 | refine below_set ?_ GE283.out | refine below_set ?_ GE284.out | refine below_set ?_ GE285.out) | exact HB.out))))
                (case aL => have := LMc12.out; omega)
                intro v290 w27 ho hb hg hat
                rw [← Ny289.out] at ho
                have n0_ := Aside0.mk (Kd.V_afterv (ok := (fun k_ => ((P0_1_ k_ ∨ P0_2_ k_ ∨ P1_1_ k_) ∨ w.heap.size ≤ k_) ∧ some k_ ≠ (v293 : Value).ownBlock ∧ k_ ≠ gb283 ∧ k_ ≠ gb284 ∧ k_ ≠ gb285)) (by (with_reducible repeat (first | apply Kd.V_alloc | apply Kd.V_drewN | apply Kd.V_drew)); exact Kd.V_mono HO0_1.out (fun _ hk => ⟨⟨hk.1.1.1.1.1, ⟨hk.1.2, ⟨hk.1.1.1.1.2, ⟨hk.1.1.1.2, hk.1.1.2⟩⟩⟩⟩, hk.2⟩)) hg hat)
                have n1_ := Aside0.mk (Kd.V_afterv (ok := (fun k_ => ((P0_1_ k_ ∨ P0_2_ k_ ∨ P1_1_ k_) ∨ w.heap.size ≤ k_) ∧ some k_ ≠ (v293 : Value).ownBlock ∧ k_ ≠ gb283 ∧ k_ ≠ gb284 ∧ k_ ≠ gb285)) (by (with_reducible repeat (first | apply Kd.V_alloc | apply Kd.V_drewN | apply Kd.V_drew)); exact Kd.V_mono HO0_2.out (fun _ hk => ⟨⟨hk.1.1.1.1.1, ⟨hk.1.2, ⟨hk.1.1.1.1.2, ⟨hk.1.1.1.2, hk.1.1.2⟩⟩⟩⟩, hk.2⟩)) hg hat)
                have n2_ := Aside0.mk (Kd.V_afterv (ok := (fun k_ => ((P0_1_ k_ ∨ P0_2_ k_ ∨ P1_1_ k_) ∨ w.heap.size ≤ k_) ∧ some k_ ≠ (v293 : Value).ownBlock ∧ k_ ≠ gb283 ∧ k_ ≠ gb284 ∧ k_ ≠ gb285)) (by (with_reducible repeat (first | apply Kd.V_alloc | apply Kd.V_drewN | apply Kd.V_drew)); exact Kd.V_mono HO1_1.out (fun _ hk => ⟨⟨hk.1.1.1.1.1, ⟨hk.1.2, ⟨hk.1.1.1.1.2, ⟨hk.1.1.1.2, hk.1.1.2⟩⟩⟩⟩, hk.2⟩)) hg hat)
                have n3_ := Aside0.mk (blk_grown (g := gb283) (o := .cells #[.int .i64 a0_0, .slice A0_1 l0_1.length c0_1, .slice A0_2 l0_2.length c0_2] 25 (0, 0)) (by (with_reducible repeat (first | refine blk_drewN ?_ _ | refine blk_drew ?_ | refine blk_alloc ?_ _)); exact BK283.out) hg (Kd.N_ne HO288.out BK283.out (by decide)))
                have n4_ := Aside0.mk (blk_grown (g := gb284) (o := .cells #[.int .u32 a1_0, .slice A1_1 l1_1.length c1_1] 29 (0, 0)) (by (with_reducible repeat (first | refine blk_drewN ?_ _ | refine blk_drew ?_ | refine blk_alloc ?_ _)); exact BK284.out) hg (Kd.N_away HO288.out (fun _ hk => hk.2.2.2.1)))
                have n5_ := Aside0.mk (blk_grown (g := gb285) (o := .cells #[.int .i64 0, .slice none 0 0, .slice none 0 0] 25 (0, 0)) (by (with_reducible repeat (first | refine blk_drewN ?_ _ | refine blk_drew ?_ | refine blk_alloc ?_ _)); exact BK285.out) hg (Kd.N_ne HO288.out BK285.out (by decide)))
                have n6_ := Aside0.mk (Kd.N_afterv (ok := (fun k_ => ((P0_1_ k_ ∨ P0_2_ k_ ∨ P1_1_ k_) ∨ w.heap.size ≤ k_) ∧ k_ ≠ gb283 ∧ k_ ≠ gb284 ∧ k_ ≠ gb285)) (by (with_reducible repeat (first | apply Kd.N_alloc | apply Kd.N_drewN | apply Kd.N_drew)); exact HO294.out) hg hat)
                have n7_ := Aside0.mk (hb)
                have n8_ := Aside0.mk (ho)
                clear HO0_1 HO0_2 HO1_1 BK283 BK284 BK285 HO294 HB HO288
                have HO0_1 := n0_
                have HO0_2 := n1_
                have HO1_1 := n2_
                have BK283 := n3_
                have BK284 := n4_
                have BK285 := n5_
                have HO294 := n6_
                have HB := n7_
                have HO291 := n8_
                clear n0_ n1_ n2_ n3_ n4_ n5_ n6_ n7_ n8_
                clear ho hb hg hat
                refine hK.out _ _ ⟨(blk_cell BK283.out 0).trans rfl, (blk_cell BK283.out 1).trans rfl, (blk_cell BK283.out 2).trans rfl, (blk_cell BK284.out 0).trans rfl, (blk_cell BK284.out 1).trans rfl⟩ (fun hHeld => ?_)
                clear hK K
                refine norm_ (a' := ?_) ?_ ?_
                rotate_left
                · show Act.put _ (some 16) _ = _
                  simp only [Act.put, List.setIfInBounds_toArray, List.set_cons_zero, List.set_cons_succ, i64_w, i32_w]
                  rfl
                exact norm_ (by simp only [putAll, Act.put, List.setIfInBounds_toArray, List.set_cons_zero, List.set_cons_succ]) (hCont (v287, v290, v293) _ ⟨hHeld, (by (with_reducible repeat (first | apply Kd.V_alloc | apply Kd.V_drewN | apply Kd.V_drew)); exact Kd.V_mono HO0_1.out (fun _ hk => ⟨hk.1.1, ⟨hk.2, ⟨hk.1.2.1, ⟨hk.1.2.2.1, ⟨hk.1.2.2.2.1, hk.1.2.2.2.2⟩⟩⟩⟩⟩)), (by (with_reducible repeat (first | apply Kd.V_alloc | apply Kd.V_drewN | apply Kd.V_drew)); exact Kd.V_mono HO0_2.out (fun _ hk => ⟨hk.1.1, ⟨hk.2, ⟨hk.1.2.1, ⟨hk.1.2.2.1, ⟨hk.1.2.2.2.1, hk.1.2.2.2.2⟩⟩⟩⟩⟩)), (by (with_reducible repeat (first | apply Kd.V_alloc | apply Kd.V_drewN | apply Kd.V_drew)); exact Kd.V_mono HO1_1.out (fun _ hk => ⟨hk.1.1, ⟨hk.2, ⟨hk.1.2.1, ⟨hk.1.2.2.1, ⟨hk.1.2.2.2.1, hk.1.2.2.2.2⟩⟩⟩⟩⟩)), (by (with_reducible repeat (first | apply Kd.N_alloc | apply Kd.N_drewN | apply Kd.N_drew)); exact HO291.out), (by (with_reducible repeat (first | apply Kd.N_alloc | apply Kd.N_drewN | apply Kd.N_drew)); exact Kd.N_mono HO294.out (fun _ hk => ⟨hk.1.1, ⟨hk.2, ⟨hk.1.2.1, ⟨hk.1.2.2.1, hk.1.2.2.2⟩⟩⟩⟩)), (by (with_reducible repeat (first | refine blk_drewN ?_ _ | refine blk_drew ?_ | refine blk_alloc ?_ _)); exact BK283.out), (by (with_reducible repeat (first | refine blk_drewN ?_ _ | refine blk_drew ?_ | refine blk_alloc ?_ _)); exact BK284.out), (by (with_reducible repeat (first | refine blk_drewN ?_ _ | refine blk_drew ?_ | refine blk_alloc ?_ _)); exact BK285.out), (by repeat (first | (with_reducible first | exact HB.out | apply below_alloc | apply pw_below_drewN | apply below_drew1 | refine below_set ?_ GE283.out | refine below_set ?_ GE284.out | refine below_set ?_ GE285.out) | exact HB.out))⟩)
            rintro ⟨v287, v290, v293⟩ w28 ⟨hS_, h0_, h1_, h2_, h3_, h4_, h5_, h6_, h7_, h8_⟩
            have n0_ : Aside0 (Kd.V k29 29 w28 w.heap.size (fun k_ => ((P0_1_ k_ ∨ P0_2_ k_ ∨ P1_1_ k_) ∨ w.heap.size ≤ k_) ∧ some k_ ≠ (v290 : Value).ownBlock ∧ some k_ ≠ (v293 : Value).ownBlock ∧ k_ ≠ gb283 ∧ k_ ≠ gb284 ∧ k_ ≠ gb285) (.slice A0_1 l0_1.length c0_1) l0_1) := ⟨h0_⟩
            have n1_ : Aside0 (Kd.V (Kd.slice 26 (Kd.int .u32)) 27 w28 w.heap.size (fun k_ => ((P0_1_ k_ ∨ P0_2_ k_ ∨ P1_1_ k_) ∨ w.heap.size ≤ k_) ∧ some k_ ≠ (v290 : Value).ownBlock ∧ some k_ ≠ (v293 : Value).ownBlock ∧ k_ ≠ gb283 ∧ k_ ≠ gb284 ∧ k_ ≠ gb285) (.slice A0_2 l0_2.length c0_2) l0_2) := ⟨h1_⟩
            have n2_ : Aside0 (Kd.V (Kd.int .u32) 26 w28 w.heap.size (fun k_ => ((P0_1_ k_ ∨ P0_2_ k_ ∨ P1_1_ k_) ∨ w.heap.size ≤ k_) ∧ some k_ ≠ (v290 : Value).ownBlock ∧ some k_ ≠ (v293 : Value).ownBlock ∧ k_ ≠ gb283 ∧ k_ ≠ gb284 ∧ k_ ≠ gb285) (.slice A1_1 l1_1.length c1_1) l1_1) := ⟨h2_⟩
            have n3_ : Aside0 (Kd.N k29 29 w28 w.heap.size (fun k_ => ((P0_1_ k_ ∨ P0_2_ k_ ∨ P1_1_ k_) ∨ w.heap.size ≤ k_) ∧ some k_ ≠ (v293 : Value).ownBlock ∧ k_ ≠ gb283 ∧ k_ ≠ gb284 ∧ k_ ≠ gb285) v290 y289) := ⟨h3_⟩
            have n4_ : Aside0 (Kd.N k29 29 w28 w.heap.size (fun k_ => ((P0_1_ k_ ∨ P0_2_ k_ ∨ P1_1_ k_) ∨ w.heap.size ≤ k_) ∧ some k_ ≠ (v290 : Value).ownBlock ∧ k_ ≠ gb283 ∧ k_ ≠ gb284 ∧ k_ ≠ gb285) v293 y292) := ⟨h4_⟩
            have n5_ : Aside0 (w28.heap[gb283]? = some (.cells #[.int .i64 a0_0, .slice A0_1 l0_1.length c0_1, .slice A0_2 l0_2.length c0_2] 25 (0, 0))) := ⟨h5_⟩
            have n6_ : Aside0 (w28.heap[gb284]? = some (.cells #[.int .u32 a1_0, .slice A1_1 l1_1.length c1_1] 29 (0, 0))) := ⟨h6_⟩
            have n7_ : Aside0 (w28.heap[gb285]? = some (.cells #[.int .i64 0, .slice none 0 0, .slice none 0 0] 25 (0, 0))) := ⟨h7_⟩
            have n8_ : Aside0 (Below w.heap.size w w28) := ⟨h8_⟩
            clear HO0_1 HO0_2 HO1_1 BK283 BK284 BK285 HB h0_ h1_ h2_ h3_ h4_ h5_ h6_ h7_ h8_
            have HO0_1 := n0_
            have HO0_2 := n1_
            have HO1_1 := n2_
            have HO291 := n3_
            have HO294 := n4_
            have BK283 := n5_
            have BK284 := n6_
            have BK285 := n7_
            have HB := n8_
            clear n0_ n1_ n2_ n3_ n4_ n5_ n6_ n7_ n8_
            have hHeld : w28.cell? ⟨gb283, 0, none⟩ = some (.int .i64 a0_0) ∧ w28.cell? ⟨gb283, 1, none⟩ = some (.slice A0_1 l0_1.length c0_1) ∧ w28.cell? ⟨gb283, 2, none⟩ = some (.slice A0_2 l0_2.length c0_2) ∧ w28.cell? ⟨gb284, 0, none⟩ = some (.int .u32 a1_0) ∧ w28.cell? ⟨gb284, 1, none⟩ = some (.slice A1_1 l1_1.length c1_1) := hS_
            obtain ⟨Ao30, co30, eo30⟩ := Kd.N_slice HO294.out
            (first | subst eo30 | (injection eo30 with f1_ f2_ f3_; have f4_ := f1_.symm; have f5_ := f3_.symm; clear f1_ f2_ f3_; subst f4_; subst f5_))
            refine norm_ (a' := ?_) ?_ ?_
            rotate_left
            · simp only [putAll, Act.put, List.setIfInBounds_toArray, List.set_cons_zero, List.set_cons_succ]
              rfl
            refine one_ (i := 6) (N := some 19) #[true, true, true, true, true, true, true, false, false] rfl rfl (one_of HT_.out (by kernel_rfl)) (by decide) (fun K hK => ?_)
            refine Kd.N_append_rows_step k29 (w0 := w) w.heap.size (by rfl) (.tmp 16) (.tmp 18) 22 29 (.agg #[(.int .u32 0), (.slice none 0 0)]) 32 rfl Try.underlying22 info29 rfl (by decide) (by omega) v290 y289 y292 _ _ _ (fun k_ => ((P0_1_ k_ ∨ P0_2_ k_ ∨ P1_1_ k_) ∨ w.heap.size ≤ k_) ∧ k_ ≠ gb283 ∧ k_ ≠ gb284 ∧ k_ ≠ gb285) (fun k_ => ((fun k_ => ((P0_1_ k_ ∨ P0_2_ k_ ∨ P1_1_ k_) ∨ w.heap.size ≤ k_) ∧ k_ ≠ gb283 ∧ k_ ≠ gb284 ∧ k_ ≠ gb285)) k_ ∧ some k_ ≠ (v290 : Value).ownBlock) rfl rfl ?aO ?aR (fun _ hk => hk) ?aF ?aB ?aS ?aL ?_
            (case aR => exact (by skip; exact Kd.N_F (Kd.N_mono (ok' := (fun k_ => ((fun k_ => ((P0_1_ k_ ∨ P0_2_ k_ ∨ P1_1_ k_) ∨ w.heap.size ≤ k_) ∧ k_ ≠ gb283 ∧ k_ ≠ gb284 ∧ k_ ≠ gb285)) k_ ∧ some k_ ≠ (v290 : Value).ownBlock)) (HO294.out) (fun k_ hk => ⟨⟨hk.1, ⟨hk.2.2.1, ⟨hk.2.2.2.1, hk.2.2.2.2⟩⟩⟩, hk.2.1⟩))))
            (case aB => exact (by repeat (first | (with_reducible first | exact HB.out | apply below_alloc | apply pw_below_drewN | apply below_drew1 | refine below_set ?_ GE283.out | refine below_set ?_ GE284.out | refine below_set ?_ GE285.out) | exact HB.out)))
            (case aF => exact (fun k_ hk => ⟨(.inr (Nat.le_trans (below_size (by repeat (first | (with_reducible first | exact HB.out | apply below_alloc | apply pw_below_drewN | apply below_drew1 | refine below_set ?_ GE283.out | refine below_set ?_ GE284.out | refine below_set ?_ GE285.out) | exact HB.out))) hk)), fb_ BK283.out k_ hk, fb_ BK284.out k_ hk, fb_ BK285.out k_ hk⟩))
            (case aO => exact (by (with_reducible repeat (first | apply Kd.N_alloc | apply Kd.N_drewN | apply Kd.N_drew)); exact Kd.N_mono HO291.out (fun _ hk => ⟨hk.1, ⟨hk.2.2.1, ⟨hk.2.2.2.1, hk.2.2.2.2⟩⟩⟩)))
            (case aS => exact (below_size (by repeat (first | (with_reducible first | exact HB.out | apply below_alloc | apply pw_below_drewN | apply below_drew1 | refine below_set ?_ GE283.out | refine below_set ?_ GE284.out | refine below_set ?_ GE285.out) | exact HB.out))))
            (case aL => have := LMc13.out; omega)
            intro v296 w29 ho hb hg hat
            rw [← Ny295.out] at ho
            have n0_ := Aside0.mk (Kd.V_afterv (ok := (fun k_ => ((P0_1_ k_ ∨ P0_2_ k_ ∨ P1_1_ k_) ∨ w.heap.size ≤ k_) ∧ some k_ ≠ (.slice Ao30 y292.length co30 : Value).ownBlock ∧ k_ ≠ gb283 ∧ k_ ≠ gb284 ∧ k_ ≠ gb285)) (by (with_reducible repeat (first | apply Kd.V_alloc | apply Kd.V_drewN | apply Kd.V_drew)); exact Kd.V_mono HO0_1.out (fun _ hk => ⟨⟨hk.1, ⟨hk.2.2.1, ⟨hk.2.2.2.1, ⟨hk.2.2.2.2.1, hk.2.2.2.2.2⟩⟩⟩⟩, hk.2.1⟩)) hg hat)
            have n1_ := Aside0.mk (Kd.V_afterv (ok := (fun k_ => ((P0_1_ k_ ∨ P0_2_ k_ ∨ P1_1_ k_) ∨ w.heap.size ≤ k_) ∧ some k_ ≠ (.slice Ao30 y292.length co30 : Value).ownBlock ∧ k_ ≠ gb283 ∧ k_ ≠ gb284 ∧ k_ ≠ gb285)) (by (with_reducible repeat (first | apply Kd.V_alloc | apply Kd.V_drewN | apply Kd.V_drew)); exact Kd.V_mono HO0_2.out (fun _ hk => ⟨⟨hk.1, ⟨hk.2.2.1, ⟨hk.2.2.2.1, ⟨hk.2.2.2.2.1, hk.2.2.2.2.2⟩⟩⟩⟩, hk.2.1⟩)) hg hat)
            have n2_ := Aside0.mk (Kd.V_afterv (ok := (fun k_ => ((P0_1_ k_ ∨ P0_2_ k_ ∨ P1_1_ k_) ∨ w.heap.size ≤ k_) ∧ some k_ ≠ (.slice Ao30 y292.length co30 : Value).ownBlock ∧ k_ ≠ gb283 ∧ k_ ≠ gb284 ∧ k_ ≠ gb285)) (by (with_reducible repeat (first | apply Kd.V_alloc | apply Kd.V_drewN | apply Kd.V_drew)); exact Kd.V_mono HO1_1.out (fun _ hk => ⟨⟨hk.1, ⟨hk.2.2.1, ⟨hk.2.2.2.1, ⟨hk.2.2.2.2.1, hk.2.2.2.2.2⟩⟩⟩⟩, hk.2.1⟩)) hg hat)
            have n3_ := Aside0.mk (blk_grown (g := gb283) (o := .cells #[.int .i64 a0_0, .slice A0_1 l0_1.length c0_1, .slice A0_2 l0_2.length c0_2] 25 (0, 0)) (by (with_reducible repeat (first | refine blk_drewN ?_ _ | refine blk_drew ?_ | refine blk_alloc ?_ _)); exact BK283.out) hg (Kd.N_ne HO291.out BK283.out (by decide)))
            have n4_ := Aside0.mk (blk_grown (g := gb284) (o := .cells #[.int .u32 a1_0, .slice A1_1 l1_1.length c1_1] 29 (0, 0)) (by (with_reducible repeat (first | refine blk_drewN ?_ _ | refine blk_drew ?_ | refine blk_alloc ?_ _)); exact BK284.out) hg (Kd.N_away HO291.out (fun _ hk => hk.2.2.2.1)))
            have n5_ := Aside0.mk (blk_grown (g := gb285) (o := .cells #[.int .i64 0, .slice none 0 0, .slice none 0 0] 25 (0, 0)) (by (with_reducible repeat (first | refine blk_drewN ?_ _ | refine blk_drew ?_ | refine blk_alloc ?_ _)); exact BK285.out) hg (Kd.N_ne HO291.out BK285.out (by decide)))
            have n6_ := Aside0.mk (Kd.N_afterv (ok := (fun k_ => ((P0_1_ k_ ∨ P0_2_ k_ ∨ P1_1_ k_) ∨ w.heap.size ≤ k_) ∧ k_ ≠ gb283 ∧ k_ ≠ gb284 ∧ k_ ≠ gb285)) (by (with_reducible repeat (first | apply Kd.N_alloc | apply Kd.N_drewN | apply Kd.N_drew)); exact Kd.N_mono HO294.out (fun _ hk => ⟨⟨hk.1, ⟨hk.2.2.1, ⟨hk.2.2.2.1, hk.2.2.2.2⟩⟩⟩, hk.2.1⟩)) hg hat)
            have n7_ := Aside0.mk (hb)
            have n8_ := Aside0.mk (ho)
            clear HO0_1 HO0_2 HO1_1 BK283 BK284 BK285 HO294 HB HO291
            have HO0_1 := n0_
            have HO0_2 := n1_
            have HO1_1 := n2_
            have BK283 := n3_
            have BK284 := n4_
            have BK285 := n5_
            have HO294 := n6_
            have HB := n7_
            have HO297 := n8_
            clear n0_ n1_ n2_ n3_ n4_ n5_ n6_ n7_ n8_
            clear ho hb hg hat
            obtain ⟨Ao31, co31, eo31⟩ := Kd.N_slice HO297.out
            (first | subst eo31 | (injection eo31 with f1_ f2_ f3_; have f4_ := f1_.symm; have f5_ := f3_.symm; clear f1_ f2_ f3_; subst f4_; subst f5_))
            refine hK.out _ _ ⟨(blk_cell BK283.out 0).trans rfl, (blk_cell BK283.out 1).trans rfl, (blk_cell BK283.out 2).trans rfl, (blk_cell BK284.out 0).trans rfl, (blk_cell BK284.out 1).trans rfl⟩ (fun hHeld => ?_)
            clear hK K
            refine norm_ (a' := ?_) ?_ ?_
            rotate_left
            · show Act.put _ (some 19) _ = _
              simp only [Act.put, List.setIfInBounds_toArray, List.set_cons_zero, List.set_cons_succ, i64_w, i32_w]
              rfl
            refine pure_ (i := 7) (N := some 20) (v := ?_) (a' := ?_) #[true, true, true, true, true, true, true, true, false] rfl rfl (any_of HT_.out (by kernel_rfl)) (fun _ _ _ h => h) (Or.inl ⟨by rfl, ?_⟩) ?_ ?_
            rotate_left
            · intro w'
              go_simp
              with_reducible rfl
            rotate_left
            · simp only [Act.put, List.setIfInBounds_toArray, List.set_cons_zero, List.set_cons_succ, i64_w, i32_w]
              rfl
            refine last_ (i := 8) (N := none) #[true, true, true, true, true, true, true, true, true] rfl rfl (one_of HT_.out (by kernel_rfl)) (by decide) (fun K hK => ?_)
            have hs32 : w29.cell? ⟨gb283, 1, none⟩ = some (.slice A0_1 l0_1.length c0_1) := (blk_cell BK283.out 1).trans rfl
            have hfs32 := blk_frozen BK283.out 1
            have hns32_1 := NB284_283.out
            have hns32_2 := NB285_283.out
            have hms32_1 := NB283_284.out
            have hms32_2 := NB283_285.out
            refine skip_ (w1 := ?_) (by rfl) rfl ?_ ?_
            rotate_left
            · go_simp
              rfl
            refine hK.out _ _ ?_
            clear hK K
            refine done_ (done_of HT_.out (by kernel_rfl)) ?_
            try go_wp2
            have n0_ : Aside0 (Kd.V k29 29 (w29.setCell ⟨gb283, 1, none⟩ (.slice Ao31 y295.length co31)) w.heap.size (fun k_ => ((P0_1_ k_ ∨ P0_2_ k_ ∨ P1_1_ k_) ∨ w.heap.size ≤ k_) ∧ some k_ ≠ (.slice Ao30 y292.length co30 : Value).ownBlock ∧ some k_ ≠ (.slice Ao31 y295.length co31 : Value).ownBlock ∧ k_ ≠ gb283 ∧ k_ ≠ gb284 ∧ k_ ≠ gb285) (.slice A0_1 l0_1.length c0_1) l0_1) := ⟨by (with_reducible repeat (first | apply Kd.V_alloc | apply Kd.V_drewN | apply Kd.V_drew)); exact Kd.V_mono (Kd.V_far (p := ⟨gb283, 1, none⟩) (Kd.V_mono HO0_1.out (fun k_ hk => (⟨hk, hk.1.2.2.1⟩ : _ ∧ k_ ≠ gb283))) (fun _ hk => hk.2) (.slice Ao31 y295.length co31)) (fun _ hk => ⟨hk.1.1.1, ⟨hk.1.1.2.1, ⟨hk.1.2, ⟨hk.1.1.2.2.1, ⟨hk.1.1.2.2.2.1, hk.1.1.2.2.2.2⟩⟩⟩⟩⟩)⟩
            have n1_ : Aside0 (Kd.V (Kd.slice 26 (Kd.int .u32)) 27 (w29.setCell ⟨gb283, 1, none⟩ (.slice Ao31 y295.length co31)) w.heap.size (fun k_ => ((P0_1_ k_ ∨ P0_2_ k_ ∨ P1_1_ k_) ∨ w.heap.size ≤ k_) ∧ some k_ ≠ (.slice Ao30 y292.length co30 : Value).ownBlock ∧ some k_ ≠ (.slice Ao31 y295.length co31 : Value).ownBlock ∧ k_ ≠ gb283 ∧ k_ ≠ gb284 ∧ k_ ≠ gb285) (.slice A0_2 l0_2.length c0_2) l0_2) := ⟨by (with_reducible repeat (first | apply Kd.V_alloc | apply Kd.V_drewN | apply Kd.V_drew)); exact Kd.V_mono (Kd.V_far (p := ⟨gb283, 1, none⟩) (Kd.V_mono HO0_2.out (fun k_ hk => (⟨hk, hk.1.2.2.1⟩ : _ ∧ k_ ≠ gb283))) (fun _ hk => hk.2) (.slice Ao31 y295.length co31)) (fun _ hk => ⟨hk.1.1.1, ⟨hk.1.1.2.1, ⟨hk.1.2, ⟨hk.1.1.2.2.1, ⟨hk.1.1.2.2.2.1, hk.1.1.2.2.2.2⟩⟩⟩⟩⟩)⟩
            have n2_ : Aside0 (Kd.V (Kd.int .u32) 26 (w29.setCell ⟨gb283, 1, none⟩ (.slice Ao31 y295.length co31)) w.heap.size (fun k_ => ((P0_1_ k_ ∨ P0_2_ k_ ∨ P1_1_ k_) ∨ w.heap.size ≤ k_) ∧ some k_ ≠ (.slice Ao30 y292.length co30 : Value).ownBlock ∧ some k_ ≠ (.slice Ao31 y295.length co31 : Value).ownBlock ∧ k_ ≠ gb283 ∧ k_ ≠ gb284 ∧ k_ ≠ gb285) (.slice A1_1 l1_1.length c1_1) l1_1) := ⟨by (with_reducible repeat (first | apply Kd.V_alloc | apply Kd.V_drewN | apply Kd.V_drew)); exact Kd.V_mono (Kd.V_far (p := ⟨gb283, 1, none⟩) (Kd.V_mono HO1_1.out (fun k_ hk => (⟨hk, hk.1.2.2.1⟩ : _ ∧ k_ ≠ gb283))) (fun _ hk => hk.2) (.slice Ao31 y295.length co31)) (fun _ hk => ⟨hk.1.1.1, ⟨hk.1.1.2.1, ⟨hk.1.2, ⟨hk.1.1.2.2.1, ⟨hk.1.1.2.2.2.1, hk.1.1.2.2.2.2⟩⟩⟩⟩⟩)⟩
            have n3_ : Aside0 (Kd.N k29 29 (w29.setCell ⟨gb283, 1, none⟩ (.slice Ao31 y295.length co31)) w.heap.size (fun k_ => ((P0_1_ k_ ∨ P0_2_ k_ ∨ P1_1_ k_) ∨ w.heap.size ≤ k_) ∧ some k_ ≠ (.slice Ao31 y295.length co31 : Value).ownBlock ∧ k_ ≠ gb283 ∧ k_ ≠ gb284 ∧ k_ ≠ gb285) (.slice Ao30 y292.length co30) y292) := ⟨by (with_reducible repeat (first | apply Kd.N_alloc | apply Kd.N_drewN | apply Kd.N_drew)); exact Kd.N_mono (Kd.N_far (p := ⟨gb283, 1, none⟩) (Kd.N_mono HO294.out (fun k_ hk => (⟨hk, hk.1.2.1⟩ : _ ∧ k_ ≠ gb283))) (fun _ hk => hk.2) (.slice Ao31 y295.length co31)) (fun _ hk => ⟨hk.1.1.1, ⟨hk.1.2, ⟨hk.1.1.2.1, ⟨hk.1.1.2.2.1, hk.1.1.2.2.2⟩⟩⟩⟩)⟩
            have n4_ : Aside0 (Kd.N k29 29 (w29.setCell ⟨gb283, 1, none⟩ (.slice Ao31 y295.length co31)) w.heap.size (fun k_ => ((P0_1_ k_ ∨ P0_2_ k_ ∨ P1_1_ k_) ∨ w.heap.size ≤ k_) ∧ k_ ≠ gb283 ∧ k_ ≠ gb284 ∧ k_ ≠ gb285) (.slice Ao31 y295.length co31) y295) := ⟨by (with_reducible repeat (first | apply Kd.N_alloc | apply Kd.N_drewN | apply Kd.N_drew)); exact Kd.N_mono (Kd.N_far (p := ⟨gb283, 1, none⟩) (Kd.N_mono HO297.out (fun k_ hk => (⟨hk, hk.2.1⟩ : _ ∧ k_ ≠ gb283))) (fun _ hk => hk.2) (.slice Ao31 y295.length co31)) (fun _ hk => ⟨hk.1.1, ⟨hk.1.2.1, ⟨hk.1.2.2.1, hk.1.2.2.2⟩⟩⟩)⟩
            have n5_ : Aside0 ((w29.setCell ⟨gb283, 1, none⟩ (.slice Ao31 y295.length co31)).heap[gb283]? = some (.cells #[.int .i64 a0_0, .slice Ao31 y295.length co31, .slice A0_2 l0_2.length c0_2] 25 (0, 0))) := ⟨by (with_reducible repeat (first | refine blk_drewN ?_ _ | refine blk_drew ?_ | refine blk_alloc ?_ _)); refine blk_put (cs := #[.int .i64 a0_0, .slice A0_1 l0_1.length c0_1, .slice A0_2 l0_2.length c0_2]) ?_ 1 _ rfl; (with_reducible repeat (first | refine blk_drewN ?_ _ | refine blk_drew ?_ | refine blk_alloc ?_ _)); exact BK283.out⟩
            have n6_ : Aside0 ((w29.setCell ⟨gb283, 1, none⟩ (.slice Ao31 y295.length co31)).heap[gb284]? = some (.cells #[.int .u32 a1_0, .slice A1_1 l1_1.length c1_1] 29 (0, 0))) := ⟨by (with_reducible repeat (first | refine blk_drewN ?_ _ | refine blk_drew ?_ | refine blk_alloc ?_ _)); refine blk_far ?_ NB284_283.out _; (with_reducible repeat (first | refine blk_drewN ?_ _ | refine blk_drew ?_ | refine blk_alloc ?_ _)); exact BK284.out⟩
            have n7_ : Aside0 ((w29.setCell ⟨gb283, 1, none⟩ (.slice Ao31 y295.length co31)).heap[gb285]? = some (.cells #[.int .i64 0, .slice none 0 0, .slice none 0 0] 25 (0, 0))) := ⟨by (with_reducible repeat (first | refine blk_drewN ?_ _ | refine blk_drew ?_ | refine blk_alloc ?_ _)); refine blk_far ?_ NB285_283.out _; (with_reducible repeat (first | refine blk_drewN ?_ _ | refine blk_drew ?_ | refine blk_alloc ?_ _)); exact BK285.out⟩
            have n8_ : Aside0 (Below w.heap.size w (w29.setCell ⟨gb283, 1, none⟩ (.slice Ao31 y295.length co31))) := ⟨by repeat (first | (with_reducible first | exact HB.out | apply below_alloc | apply pw_below_drewN | apply below_drew1 | refine below_set ?_ GE283.out | refine below_set ?_ GE284.out | refine below_set ?_ GE285.out) | exact HB.out)⟩
            (try clear HO0_1)
            (try clear HO0_2)
            (try clear HO1_1)
            (try clear HO294)
            (try clear HO297)
            (try clear BK283)
            (try clear BK284)
            (try clear BK285)
            (try clear HB)
            generalize (w29.setCell ⟨gb283, 1, none⟩ (.slice Ao31 y295.length co31)) = w33 at n0_ n1_ n2_ n3_ n4_ n5_ n6_ n7_ n8_ ⊢
            have HO0_1 := n0_
            have HO0_2 := n1_
            have HO1_1 := n2_
            have HO294 := n3_
            have HO297 := n4_
            have BK283 := n5_
            have BK284 := n6_
            have BK285 := n7_
            have HB := n8_
            clear n0_ n1_ n2_ n3_ n4_ n5_ n6_ n7_ n8_
            have n0_ := Aside0.mk (Kd.V_drew HO0_1.out)
            have n1_ := Aside0.mk (Kd.V_drew HO0_2.out)
            have n2_ := Aside0.mk (Kd.V_drew HO1_1.out)
            have n3_ := Aside0.mk (Kd.N_drew HO294.out)
            have n4_ := Aside0.mk (Kd.N_drew HO297.out)
            have n5_ := Aside0.mk (blk_drew BK283.out)
            have n6_ := Aside0.mk (blk_drew BK284.out)
            have n7_ := Aside0.mk (blk_drew BK285.out)
            have n8_ := Aside0.mk (below_drew1 HB.out)
            clear HO0_1 HO0_2 HO1_1 HO294 HO297 BK283 BK284 BK285 HB
            have HO0_1 := n0_
            have HO0_2 := n1_
            have HO1_1 := n2_
            have HO294 := n3_
            have HO297 := n4_
            have BK283 := n5_
            have BK284 := n6_
            have BK285 := n7_
            have HB := n8_
            clear n0_ n1_ n2_ n3_ n4_ n5_ n6_ n7_ n8_
            refine start_ (n := 10) (S := fun w' => w'.cell? ⟨gb283, 0, none⟩ = some (.int .i64 a0_0) ∧ w'.cell? ⟨gb283, 1, none⟩ = some (.slice Ao31 y295.length co31) ∧ w'.cell? ⟨gb283, 2, none⟩ = some (.slice A0_2 l0_2.length c0_2) ∧ w'.cell? ⟨gb284, 0, none⟩ = some (.int .u32 a1_0) ∧ w'.cell? ⟨gb284, 1, none⟩ = some (.slice A1_1 l1_1.length c1_1)) (ds := [9]) #[false, false, false, false, false, false, false, false, false, false] (by kernel_rfl) rfl rfl ⟨(blk_cell BK283.out 0).trans rfl, (blk_cell BK283.out 1).trans rfl, (blk_cell BK283.out 2).trans rfl, (blk_cell BK284.out 0).trans rfl, (blk_cell BK284.out 1).trans rfl⟩ (fun hHeld => ?_); refine with_tabW chamberlainref06_Send.tab4 chamberlainref06_Send.bits4 (fun HT_ HW_ => ?_)
            generalize w33.drew = w34 at HO0_1 HO0_2 HO1_1 HO294 HO297 BK283 BK284 BK285 HB hHeld ⊢
            refine pure_ (i := 1) (N := some 22) (v := ?_) (a' := ?_) #[false, true, false, false, false, false, false, false, false, false] rfl rfl (any_of HT_.out (by kernel_rfl)) (fun _ _ _ h => h) (Or.inl ⟨by rfl, ?_⟩) ?_ ?_
            rotate_left
            · intro w'
              go_simp
              with_reducible rfl
            rotate_left
            · simp only [Act.put, List.setIfInBounds_toArray, List.set_cons_zero, List.set_cons_succ, i64_w, i32_w]
              rfl
            refine pure_ (i := 4) (N := some 25) (v := ?_) (a' := ?_) #[false, true, false, false, true, false, false, false, false, false] rfl rfl (any_of HT_.out (by kernel_rfl)) (fun _ _ _ h => h) (Or.inl ⟨by rfl, ?_⟩) ?_ ?_
            rotate_left
            · intro w'
              go_simp
              with_reducible rfl
            rotate_left
            · simp only [Act.put, List.setIfInBounds_toArray, List.set_cons_zero, List.set_cons_succ, i64_w, i32_w]
              rfl
            refine take_ (i := 2) (N := some 23) (v := ?_) (a' := ?_) #[false, true, true, false, true, false, false, false, false, false] rfl rfl (take_ofW HT_.out HW_.out (by kernel_rfl)) (fun _ _ _ h => h) (Or.inl ⟨by rfl, ?_⟩) hHeld ?_ ?_
            rotate_left
            · rintro w' ⟨s0, s1, s2, s3, s4⟩
              go_simp
              with_reducible rfl
            rotate_left
            · simp only [Act.put, List.setIfInBounds_toArray, List.set_cons_zero, List.set_cons_succ, i64_w, i32_w]
              rfl
            refine take_ (i := 5) (N := some 26) (v := ?_) (a' := ?_) #[false, true, true, false, true, true, false, false, false, false] rfl rfl (take_ofW HT_.out HW_.out (by kernel_rfl)) (fun _ _ _ h => h) (Or.inl ⟨by rfl, ?_⟩) hHeld ?_ ?_
            rotate_left
            · rintro w' ⟨s0, s1, s2, s3, s4⟩
              go_simp
              with_reducible rfl
            rotate_left
            · simp only [Act.put, List.setIfInBounds_toArray, List.set_cons_zero, List.set_cons_succ, i64_w, i32_w]
              rfl
            refine join_ (σ := Value × Value × Value) 3 #[true, true, true, true, true, true, true, false, false, false] (fun s_ => [(21, s_.1), (24, s_.2.1), (27, s_.2.2)]) (fun s_ w' => (w'.cell? ⟨gb283, 0, none⟩ = some (.int .i64 a0_0) ∧ w'.cell? ⟨gb283, 1, none⟩ = some (.slice Ao31 y295.length co31) ∧ w'.cell? ⟨gb283, 2, none⟩ = some (.slice A0_2 l0_2.length c0_2) ∧ w'.cell? ⟨gb284, 0, none⟩ = some (.int .u32 a1_0) ∧ w'.cell? ⟨gb284, 1, none⟩ = some (.slice A1_1 l1_1.length c1_1)) ∧ (Kd.V k29 29 w' w.heap.size (fun k_ => ((P0_1_ k_ ∨ P0_2_ k_ ∨ P1_1_ k_) ∨ w.heap.size ≤ k_) ∧ some k_ ≠ (.slice Ao30 y292.length co30 : Value).ownBlock ∧ some k_ ≠ (.slice Ao31 y295.length co31 : Value).ownBlock ∧ some k_ ≠ (s_.2.1 : Value).ownBlock ∧ some k_ ≠ (s_.2.2 : Value).ownBlock ∧ k_ ≠ gb283 ∧ k_ ≠ gb284 ∧ k_ ≠ gb285) (.slice A0_1 l0_1.length c0_1) l0_1) ∧ (Kd.V (Kd.slice 26 (Kd.int .u32)) 27 w' w.heap.size (fun k_ => ((P0_1_ k_ ∨ P0_2_ k_ ∨ P1_1_ k_) ∨ w.heap.size ≤ k_) ∧ some k_ ≠ (.slice Ao30 y292.length co30 : Value).ownBlock ∧ some k_ ≠ (.slice Ao31 y295.length co31 : Value).ownBlock ∧ some k_ ≠ (s_.2.1 : Value).ownBlock ∧ some k_ ≠ (s_.2.2 : Value).ownBlock ∧ k_ ≠ gb283 ∧ k_ ≠ gb284 ∧ k_ ≠ gb285) (.slice A0_2 l0_2.length c0_2) l0_2) ∧ (Kd.V (Kd.int .u32) 26 w' w.heap.size (fun k_ => ((P0_1_ k_ ∨ P0_2_ k_ ∨ P1_1_ k_) ∨ w.heap.size ≤ k_) ∧ some k_ ≠ (.slice Ao30 y292.length co30 : Value).ownBlock ∧ some k_ ≠ (.slice Ao31 y295.length co31 : Value).ownBlock ∧ some k_ ≠ (s_.2.1 : Value).ownBlock ∧ some k_ ≠ (s_.2.2 : Value).ownBlock ∧ k_ ≠ gb283 ∧ k_ ≠ gb284 ∧ k_ ≠ gb285) (.slice A1_1 l1_1.length c1_1) l1_1) ∧ (Kd.N k29 29 w' w.heap.size (fun k_ => ((P0_1_ k_ ∨ P0_2_ k_ ∨ P1_1_ k_) ∨ w.heap.size ≤ k_) ∧ some k_ ≠ (.slice Ao31 y295.length co31 : Value).ownBlock ∧ some k_ ≠ (s_.2.1 : Value).ownBlock ∧ some k_ ≠ (s_.2.2 : Value).ownBlock ∧ k_ ≠ gb283 ∧ k_ ≠ gb284 ∧ k_ ≠ gb285) (.slice Ao30 y292.length co30) y292) ∧ (Kd.N k29 29 w' w.heap.size (fun k_ => ((P0_1_ k_ ∨ P0_2_ k_ ∨ P1_1_ k_) ∨ w.heap.size ≤ k_) ∧ some k_ ≠ (s_.2.1 : Value).ownBlock ∧ some k_ ≠ (s_.2.2 : Value).ownBlock ∧ k_ ≠ gb283 ∧ k_ ≠ gb284 ∧ k_ ≠ gb285) (.slice Ao31 y295.length co31) y295) ∧ (Kd.N (Kd.slice 26 (Kd.int .u32)) 27 w' w.heap.size (fun k_ => ((P0_1_ k_ ∨ P0_2_ k_ ∨ P1_1_ k_) ∨ w.heap.size ≤ k_) ∧ some k_ ≠ (.slice Ao30 y292.length co30 : Value).ownBlock ∧ some k_ ≠ (.slice Ao31 y295.length co31 : Value).ownBlock ∧ some k_ ≠ (s_.2.2 : Value).ownBlock ∧ k_ ≠ gb283 ∧ k_ ≠ gb284 ∧ k_ ≠ gb285) s_.2.1 y301) ∧ (Kd.N (Kd.slice 26 (Kd.int .u32)) 27 w' w.heap.size (fun k_ => ((P0_1_ k_ ∨ P0_2_ k_ ∨ P1_1_ k_) ∨ w.heap.size ≤ k_) ∧ some k_ ≠ (.slice Ao30 y292.length co30 : Value).ownBlock ∧ some k_ ≠ (.slice Ao31 y295.length co31 : Value).ownBlock ∧ some k_ ≠ (s_.2.1 : Value).ownBlock ∧ k_ ≠ gb283 ∧ k_ ≠ gb284 ∧ k_ ≠ gb285) s_.2.2 y304) ∧ (w'.heap[gb283]? = some (.cells #[.int .i64 a0_0, .slice Ao31 y295.length co31, .slice A0_2 l0_2.length c0_2] 25 (0, 0))) ∧ (w'.heap[gb284]? = some (.cells #[.int .u32 a1_0, .slice A1_1 l1_1.length c1_1] 29 (0, 0))) ∧ (w'.heap[gb285]? = some (.cells #[.int .i64 0, .slice none 0 0, .slice none 0 0] 25 (0, 0))) ∧ (Below w.heap.size w w')) ?_ ?_
            rotate_left
            · intro hCont
              refine two_ (i := 0) (j := 6) (Ni := some 21) (Nj := some 27) #[true, true, true, false, true, true, false, false, false, false] #[false, true, true, false, true, true, true, false, false, false] rfl rfl rfl rfl (two_of HT_.out (by kernel_rfl)) (by decide) (by decide) (fun K hK => ?_) (fun K hK => ?_)
              · skip
                refine Kd.N_lit_step (Kd.slice 26 (Kd.int .u32)) _ 27 ?hg (N' := 21) ?hd (xs := ([] : List (List Int))) (inner := []) (ok := (fun k_ => ((P0_1_ k_ ∨ P0_2_ k_ ∨ P1_1_ k_) ∨ w.heap.size ≤ k_) ∧ some k_ ≠ (.slice Ao30 y292.length co30 : Value).ownBlock ∧ some k_ ≠ (.slice Ao31 y295.length co31 : Value).ownBlock ∧ k_ ≠ gb283 ∧ k_ ≠ gb284 ∧ k_ ≠ gb285)) (okp := (fun k_ => ((P0_1_ k_ ∨ P0_2_ k_ ∨ P1_1_ k_) ∨ w.heap.size ≤ k_) ∧ some k_ ≠ (.slice Ao30 y292.length co30 : Value).ownBlock ∧ some k_ ≠ (.slice Ao31 y295.length co31 : Value).ownBlock ∧ k_ ≠ gb283 ∧ k_ ≠ gb284 ∧ k_ ≠ gb285)) ?hr ?hp (fun _ hk => hk) ((show ∀ k_, w34.heap.size ≤ k_ → (fun k_ => ((P0_1_ k_ ∨ P0_2_ k_ ∨ P1_1_ k_) ∨ w.heap.size ≤ k_) ∧ some k_ ≠ (.slice Ao30 y292.length co30 : Value).ownBlock ∧ some k_ ≠ (.slice Ao31 y295.length co31 : Value).ownBlock ∧ k_ ≠ gb283 ∧ k_ ≠ gb284 ∧ k_ ≠ gb285) k_ from fun k_ hk => ⟨(.inr (Nat.le_trans (below_size (by repeat (first | (with_reducible first | exact HB.out | apply below_alloc | apply pw_below_drewN | apply below_drew1 | refine below_set ?_ GE283.out | refine below_set ?_ GE284.out | refine below_set ?_ GE285.out) | exact HB.out))) hk)), Kd.fresh' (Kd.N_lt (by (with_reducible repeat (first | apply Kd.N_alloc | apply Kd.N_drewN | apply Kd.N_drew)); exact HO294.out)) k_ hk, Kd.fresh' (Kd.N_lt (by (with_reducible repeat (first | apply Kd.N_alloc | apply Kd.N_drewN | apply Kd.N_drew)); exact HO297.out)) k_ hk, fb_ BK283.out k_ hk, fb_ BK284.out k_ hk, fb_ BK285.out k_ hk⟩) _ (Nat.le_refl _)) (Below.refl _ _) (Nat.le_refl _) (by simp) ?_; (case hd => rfl); (case hg => rfl); (case hr => first | (go_simp; done) | (go_simp; rfl)); (case hp => exact (Reps.none _ _))
                intro v299 w35 ho36 hb hg_ hnew_
                clear hg_ hnew_
                (first | rw [← Ny298.out] at ho36 | (simp only [Int.reduceToNat] at ho36; rw [← Ny298.out] at ho36))
                have n0_ := Aside0.mk (vf_ HO0_1.out (Kd.N_base ho36) hb)
                have n1_ := Aside0.mk (vf_ HO0_2.out (Kd.N_base ho36) hb)
                have n2_ := Aside0.mk (vf_ HO1_1.out (Kd.N_base ho36) hb)
                have n3_ := Aside0.mk (nf_ HO294.out (Kd.N_base ho36) hb)
                have n4_ := Aside0.mk (nf_ HO297.out (Kd.N_base ho36) hb)
                have n5_ := Aside0.mk (Kd.N_lower ho36 (below_size (by repeat (first | (with_reducible first | exact HB.out | apply below_alloc | apply pw_below_drewN | apply below_drew1 | refine below_set ?_ GE283.out | refine below_set ?_ GE284.out | refine below_set ?_ GE285.out) | exact HB.out))))
                have n6_ := Aside0.mk (bb_ BK283.out hb)
                have n7_ := Aside0.mk (bb_ BK284.out hb)
                have n8_ := Aside0.mk (bb_ BK285.out hb)
                have n9_ := Aside0.mk (bs_ hb)
                clear HO0_1 HO0_2 HO1_1 HO294 HO297 BK283 BK284 BK285 HB
                have HO0_1 := n0_
                have HO0_2 := n1_
                have HO1_1 := n2_
                have HO294 := n3_
                have HO297 := n4_
                have HO300 := n5_
                have BK283 := n6_
                have BK284 := n7_
                have BK285 := n8_
                have HB := n9_
                clear n0_ n1_ n2_ n3_ n4_ n5_ n6_ n7_ n8_ n9_
                clear hb ho36
                refine hK.out _ _ ⟨(blk_cell BK283.out 0).trans rfl, (blk_cell BK283.out 1).trans rfl, (blk_cell BK283.out 2).trans rfl, (blk_cell BK284.out 0).trans rfl, (blk_cell BK284.out 1).trans rfl⟩ (fun hHeld => ?_)
                clear hK K
                refine norm_ (a' := ?_) ?_ ?_
                rotate_left
                · show Act.put _ (some 21) _ = _
                  simp only [Act.put, List.setIfInBounds_toArray, List.set_cons_zero, List.set_cons_succ, i64_w, i32_w]
                  rfl
                refine two_ (i := 3) (j := 6) (Ni := some 24) (Nj := some 27) #[true, true, true, true, true, true, false, false, false, false] #[true, true, true, false, true, true, true, false, false, false] rfl rfl rfl rfl (two_of HT_.out (by kernel_rfl)) (by decide) (by decide) (fun K hK => ?_) (fun K hK => ?_)
                · skip
                  refine Kd.N_append_rows_step (Kd.slice 26 (Kd.int .u32)) (w0 := w) w.heap.size (by rfl) (.tmp 21) (.tmp 23) 23 27 (.slice none 0 0) 24 rfl Try.underlying23 info27 rfl (by decide) (by omega) v299 y298 l0_2 _ _ _ (fun k_ => ((P0_1_ k_ ∨ P0_2_ k_ ∨ P1_1_ k_) ∨ w.heap.size ≤ k_) ∧ some k_ ≠ (.slice Ao30 y292.length co30 : Value).ownBlock ∧ some k_ ≠ (.slice Ao31 y295.length co31 : Value).ownBlock ∧ k_ ≠ gb283 ∧ k_ ≠ gb284 ∧ k_ ≠ gb285) (fun k_ => ((fun k_ => ((P0_1_ k_ ∨ P0_2_ k_ ∨ P1_1_ k_) ∨ w.heap.size ≤ k_) ∧ some k_ ≠ (.slice Ao30 y292.length co30 : Value).ownBlock ∧ some k_ ≠ (.slice Ao31 y295.length co31 : Value).ownBlock ∧ k_ ≠ gb283 ∧ k_ ≠ gb284 ∧ k_ ≠ gb285)) k_ ∧ some k_ ≠ (v299 : Value).ownBlock) rfl rfl ?aO ?aR (fun _ hk => hk) ?aF ?aB ?aS ?aL ?_
                  (case aR => exact (by skip; exact Kd.V_F (Kd.V_mono (ok' := (fun k_ => ((fun k_ => ((P0_1_ k_ ∨ P0_2_ k_ ∨ P1_1_ k_) ∨ w.heap.size ≤ k_) ∧ some k_ ≠ (.slice Ao30 y292.length co30 : Value).ownBlock ∧ some k_ ≠ (.slice Ao31 y295.length co31 : Value).ownBlock ∧ k_ ≠ gb283 ∧ k_ ≠ gb284 ∧ k_ ≠ gb285)) k_ ∧ some k_ ≠ (v299 : Value).ownBlock)) (HO0_2.out) (fun k_ hk => ⟨⟨hk.1.1, ⟨hk.1.2.1, ⟨hk.1.2.2.1, ⟨hk.1.2.2.2.1, ⟨hk.1.2.2.2.2.1, hk.1.2.2.2.2.2⟩⟩⟩⟩⟩, hk.2⟩))))
                  (case aB => exact (by repeat (first | (with_reducible first | exact HB.out | apply below_alloc | apply pw_below_drewN | apply below_drew1 | refine below_set ?_ GE283.out | refine below_set ?_ GE284.out | refine below_set ?_ GE285.out) | exact HB.out)))
                  (case aF => exact (fun k_ hk => ⟨(.inr (Nat.le_trans (below_size (by repeat (first | (with_reducible first | exact HB.out | apply below_alloc | apply pw_below_drewN | apply below_drew1 | refine below_set ?_ GE283.out | refine below_set ?_ GE284.out | refine below_set ?_ GE285.out) | exact HB.out))) hk)), Kd.fresh' (Kd.N_lt (by (with_reducible repeat (first | apply Kd.N_alloc | apply Kd.N_drewN | apply Kd.N_drew)); exact HO294.out)) k_ hk, Kd.fresh' (Kd.N_lt (by (with_reducible repeat (first | apply Kd.N_alloc | apply Kd.N_drewN | apply Kd.N_drew)); exact HO297.out)) k_ hk, fb_ BK283.out k_ hk, fb_ BK284.out k_ hk, fb_ BK285.out k_ hk⟩))
                  (case aO => exact (by (with_reducible repeat (first | apply Kd.N_alloc | apply Kd.N_drewN | apply Kd.N_drew)); exact HO300.out))
                  (case aS => exact (below_size (by repeat (first | (with_reducible first | exact HB.out | apply below_alloc | apply pw_below_drewN | apply below_drew1 | refine below_set ?_ GE283.out | refine below_set ?_ GE284.out | refine below_set ?_ GE285.out) | exact HB.out))))
                  (case aL => have := LMc14.out; omega)
                  intro v302 w37 ho hb hg hat
                  rw [← Ny301.out] at ho
                  have n0_ := Aside0.mk (Kd.V_afterv (ok := (fun k_ => ((P0_1_ k_ ∨ P0_2_ k_ ∨ P1_1_ k_) ∨ w.heap.size ≤ k_) ∧ some k_ ≠ (.slice Ao30 y292.length co30 : Value).ownBlock ∧ some k_ ≠ (.slice Ao31 y295.length co31 : Value).ownBlock ∧ k_ ≠ gb283 ∧ k_ ≠ gb284 ∧ k_ ≠ gb285)) (by (with_reducible repeat (first | apply Kd.V_alloc | apply Kd.V_drewN | apply Kd.V_drew)); exact HO0_1.out) hg hat)
                  have n1_ := Aside0.mk (Kd.V_afterv (ok := (fun k_ => ((P0_1_ k_ ∨ P0_2_ k_ ∨ P1_1_ k_) ∨ w.heap.size ≤ k_) ∧ some k_ ≠ (.slice Ao30 y292.length co30 : Value).ownBlock ∧ some k_ ≠ (.slice Ao31 y295.length co31 : Value).ownBlock ∧ k_ ≠ gb283 ∧ k_ ≠ gb284 ∧ k_ ≠ gb285)) (by (with_reducible repeat (first | apply Kd.V_alloc | apply Kd.V_drewN | apply Kd.V_drew)); exact HO0_2.out) hg hat)
                  have n2_ := Aside0.mk (Kd.V_afterv (ok := (fun k_ => ((P0_1_ k_ ∨ P0_2_ k_ ∨ P1_1_ k_) ∨ w.heap.size ≤ k_) ∧ some k_ ≠ (.slice Ao30 y292.length co30 : Value).ownBlock ∧ some k_ ≠ (.slice Ao31 y295.length co31 : Value).ownBlock ∧ k_ ≠ gb283 ∧ k_ ≠ gb284 ∧ k_ ≠ gb285)) (by (with_reducible repeat (first | apply Kd.V_alloc | apply Kd.V_drewN | apply Kd.V_drew)); exact HO1_1.out) hg hat)
                  have n3_ := Aside0.mk (blk_grown (g := gb283) (o := .cells #[.int .i64 a0_0, .slice Ao31 y295.length co31, .slice A0_2 l0_2.length c0_2] 25 (0, 0)) (by (with_reducible repeat (first | refine blk_drewN ?_ _ | refine blk_drew ?_ | refine blk_alloc ?_ _)); exact BK283.out) hg (Kd.N_ne HO300.out BK283.out (by decide)))
                  have n4_ := Aside0.mk (blk_grown (g := gb284) (o := .cells #[.int .u32 a1_0, .slice A1_1 l1_1.length c1_1] 29 (0, 0)) (by (with_reducible repeat (first | refine blk_drewN ?_ _ | refine blk_drew ?_ | refine blk_alloc ?_ _)); exact BK284.out) hg (Kd.N_ne HO300.out BK284.out (by decide)))
                  have n5_ := Aside0.mk (blk_grown (g := gb285) (o := .cells #[.int .i64 0, .slice none 0 0, .slice none 0 0] 25 (0, 0)) (by (with_reducible repeat (first | refine blk_drewN ?_ _ | refine blk_drew ?_ | refine blk_alloc ?_ _)); exact BK285.out) hg (Kd.N_ne HO300.out BK285.out (by decide)))
                  have n6_ := Aside0.mk (Kd.N_afterv (ok := (fun k_ => ((P0_1_ k_ ∨ P0_2_ k_ ∨ P1_1_ k_) ∨ w.heap.size ≤ k_) ∧ some k_ ≠ (.slice Ao31 y295.length co31 : Value).ownBlock ∧ k_ ≠ gb283 ∧ k_ ≠ gb284 ∧ k_ ≠ gb285)) (by (with_reducible repeat (first | apply Kd.N_alloc | apply Kd.N_drewN | apply Kd.N_drew)); exact HO294.out) hg hat)
                  have n7_ := Aside0.mk (Kd.N_afterv (ok := (fun k_ => ((P0_1_ k_ ∨ P0_2_ k_ ∨ P1_1_ k_) ∨ w.heap.size ≤ k_) ∧ k_ ≠ gb283 ∧ k_ ≠ gb284 ∧ k_ ≠ gb285)) (by (with_reducible repeat (first | apply Kd.N_alloc | apply Kd.N_drewN | apply Kd.N_drew)); exact HO297.out) hg hat)
                  have n8_ := Aside0.mk (hb)
                  have n9_ := Aside0.mk (ho)
                  clear HO0_1 HO0_2 HO1_1 BK283 BK284 BK285 HO294 HO297 HB HO300
                  have HO0_1 := n0_
                  have HO0_2 := n1_
                  have HO1_1 := n2_
                  have BK283 := n3_
                  have BK284 := n4_
                  have BK285 := n5_
                  have HO294 := n6_
                  have HO297 := n7_
                  have HB := n8_
                  have HO303 := n9_
                  clear n0_ n1_ n2_ n3_ n4_ n5_ n6_ n7_ n8_ n9_
                  clear ho hb hg hat
                  refine hK.out _ _ ⟨(blk_cell BK283.out 0).trans rfl, (blk_cell BK283.out 1).trans rfl, (blk_cell BK283.out 2).trans rfl, (blk_cell BK284.out 0).trans rfl, (blk_cell BK284.out 1).trans rfl⟩ (fun hHeld => ?_)
                  clear hK K
                  refine norm_ (a' := ?_) ?_ ?_
                  rotate_left
                  · show Act.put _ (some 24) _ = _
                    simp only [Act.put, List.setIfInBounds_toArray, List.set_cons_zero, List.set_cons_succ, i64_w, i32_w]
                    rfl
                  refine one_ (i := 6) (N := some 27) #[true, true, true, true, true, true, true, false, false, false] rfl rfl (one_of HT_.out (by kernel_rfl)) (by decide) (fun K hK => ?_)
                  refine Kd.N_lit_step (Kd.slice 26 (Kd.int .u32)) _ 27 ?hg (N' := 27) ?hd (xs := ([l1_1] : List (List Int))) (inner := [.slice A1_1 l1_1.length c1_1]) (ok := (fun k_ => ((P0_1_ k_ ∨ P0_2_ k_ ∨ P1_1_ k_) ∨ w.heap.size ≤ k_) ∧ some k_ ≠ (.slice Ao30 y292.length co30 : Value).ownBlock ∧ some k_ ≠ (.slice Ao31 y295.length co31 : Value).ownBlock ∧ some k_ ≠ (v302 : Value).ownBlock ∧ k_ ≠ gb283 ∧ k_ ≠ gb284 ∧ k_ ≠ gb285)) (okp := (fun k_ => ((P0_1_ k_ ∨ P0_2_ k_ ∨ P1_1_ k_) ∨ w.heap.size ≤ k_) ∧ some k_ ≠ (.slice Ao30 y292.length co30 : Value).ownBlock ∧ some k_ ≠ (.slice Ao31 y295.length co31 : Value).ownBlock ∧ some k_ ≠ (v302 : Value).ownBlock ∧ k_ ≠ gb283 ∧ k_ ≠ gb284 ∧ k_ ≠ gb285)) ?hr ?hp (fun _ hk => hk) ((show ∀ k_, w37.heap.size ≤ k_ → (fun k_ => ((P0_1_ k_ ∨ P0_2_ k_ ∨ P1_1_ k_) ∨ w.heap.size ≤ k_) ∧ some k_ ≠ (.slice Ao30 y292.length co30 : Value).ownBlock ∧ some k_ ≠ (.slice Ao31 y295.length co31 : Value).ownBlock ∧ some k_ ≠ (v302 : Value).ownBlock ∧ k_ ≠ gb283 ∧ k_ ≠ gb284 ∧ k_ ≠ gb285) k_ from fun k_ hk => ⟨(.inr (Nat.le_trans (below_size (by repeat (first | (with_reducible first | exact HB.out | apply below_alloc | apply pw_below_drewN | apply below_drew1 | refine below_set ?_ GE283.out | refine below_set ?_ GE284.out | refine below_set ?_ GE285.out) | exact HB.out))) hk)), Kd.fresh' (Kd.N_lt (by (with_reducible repeat (first | apply Kd.N_alloc | apply Kd.N_drewN | apply Kd.N_drew)); exact HO294.out)) k_ hk, Kd.fresh' (Kd.N_lt (by (with_reducible repeat (first | apply Kd.N_alloc | apply Kd.N_drewN | apply Kd.N_drew)); exact HO297.out)) k_ hk, Kd.fresh' (Kd.N_lt (by (with_reducible repeat (first | apply Kd.N_alloc | apply Kd.N_drewN | apply Kd.N_drew)); exact HO303.out)) k_ hk, fb_ BK283.out k_ hk, fb_ BK284.out k_ hk, fb_ BK285.out k_ hk⟩) _ (Nat.le_refl _)) (Below.refl _ _) (Nat.le_refl _) (by simp) ?_; (case hd => rfl); (case hg => rfl); (case hr => first | (go_simp; done) | (go_simp; rfl)); (case hp => exact (Reps.one (show Kd.FK (Kd.slice 26 (Kd.int .u32)) _ _ l1_1 [.slice A1_1 l1_1.length c1_1] from (Kd.FK_slice_mk (Kd.V_reads' (Kd.V_mono (ok' := (fun k_ => ((P0_1_ k_ ∨ P0_2_ k_ ∨ P1_1_ k_) ∨ w.heap.size ≤ k_) ∧ some k_ ≠ (.slice Ao30 y292.length co30 : Value).ownBlock ∧ some k_ ≠ (.slice Ao31 y295.length co31 : Value).ownBlock ∧ some k_ ≠ (v302 : Value).ownBlock ∧ k_ ≠ gb283 ∧ k_ ≠ gb284 ∧ k_ ≠ gb285)) (HO1_1.out) (fun k_ hk => ⟨hk.1.1, ⟨hk.1.2.1, ⟨hk.1.2.2.1, ⟨hk.2, ⟨hk.1.2.2.2.1, ⟨hk.1.2.2.2.2.1, hk.1.2.2.2.2.2⟩⟩⟩⟩⟩⟩))).2.1 (Kd.V_F (Kd.V_mono (ok' := (fun k_ => ((P0_1_ k_ ∨ P0_2_ k_ ∨ P1_1_ k_) ∨ w.heap.size ≤ k_) ∧ some k_ ≠ (.slice Ao30 y292.length co30 : Value).ownBlock ∧ some k_ ≠ (.slice Ao31 y295.length co31 : Value).ownBlock ∧ some k_ ≠ (v302 : Value).ownBlock ∧ k_ ≠ gb283 ∧ k_ ≠ gb284 ∧ k_ ≠ gb285)) (HO1_1.out) (fun k_ hk => ⟨hk.1.1, ⟨hk.1.2.1, ⟨hk.1.2.2.1, ⟨hk.2, ⟨hk.1.2.2.2.1, ⟨hk.1.2.2.2.2.1, hk.1.2.2.2.2.2⟩⟩⟩⟩⟩⟩))))) (Reps.none _ _)))
                  intro v305 w38 ho39 hb hg_ hnew_
                  clear hg_ hnew_
                  (first | rw [← Ny304.out] at ho39 | (simp only [Int.reduceToNat] at ho39; rw [← Ny304.out] at ho39))
                  have n0_ := Aside0.mk (vf_ HO0_1.out (Kd.N_base ho39) hb)
                  have n1_ := Aside0.mk (vf_ HO0_2.out (Kd.N_base ho39) hb)
                  have n2_ := Aside0.mk (vf_ HO1_1.out (Kd.N_base ho39) hb)
                  have n3_ := Aside0.mk (nf_ HO294.out (Kd.N_base ho39) hb)
                  have n4_ := Aside0.mk (nf_ HO297.out (Kd.N_base ho39) hb)
                  have n5_ := Aside0.mk (nf_ HO303.out (Kd.N_base ho39) hb)
                  have n6_ := Aside0.mk (Kd.N_lower ho39 (below_size (by repeat (first | (with_reducible first | exact HB.out | apply below_alloc | apply pw_below_drewN | apply below_drew1 | refine below_set ?_ GE283.out | refine below_set ?_ GE284.out | refine below_set ?_ GE285.out) | exact HB.out))))
                  have n7_ := Aside0.mk (bb_ BK283.out hb)
                  have n8_ := Aside0.mk (bb_ BK284.out hb)
                  have n9_ := Aside0.mk (bb_ BK285.out hb)
                  have n10_ := Aside0.mk (bs_ hb)
                  clear HO0_1 HO0_2 HO1_1 HO294 HO297 HO303 BK283 BK284 BK285 HB
                  have HO0_1 := n0_
                  have HO0_2 := n1_
                  have HO1_1 := n2_
                  have HO294 := n3_
                  have HO297 := n4_
                  have HO303 := n5_
                  have HO306 := n6_
                  have BK283 := n7_
                  have BK284 := n8_
                  have BK285 := n9_
                  have HB := n10_
                  clear n0_ n1_ n2_ n3_ n4_ n5_ n6_ n7_ n8_ n9_ n10_
                  clear hb ho39
                  refine hK.out _ _ ⟨(blk_cell BK283.out 0).trans rfl, (blk_cell BK283.out 1).trans rfl, (blk_cell BK283.out 2).trans rfl, (blk_cell BK284.out 0).trans rfl, (blk_cell BK284.out 1).trans rfl⟩ (fun hHeld => ?_)
                  clear hK K
                  refine norm_ (a' := ?_) ?_ ?_
                  rotate_left
                  · show Act.put _ (some 27) _ = _
                    simp only [Act.put, List.setIfInBounds_toArray, List.set_cons_zero, List.set_cons_succ, i64_w, i32_w]
                    rfl
                  exact norm_ (by simp only [putAll, Act.put, List.setIfInBounds_toArray, List.set_cons_zero, List.set_cons_succ]) (hCont (v299, v302, v305) _ ⟨hHeld, (by (with_reducible repeat (first | apply Kd.V_alloc | apply Kd.V_drewN | apply Kd.V_drew)); exact Kd.V_mono HO0_1.out (fun _ hk => ⟨hk.1.1.1, ⟨hk.1.1.2.1, ⟨hk.1.1.2.2.1, ⟨hk.1.2, ⟨hk.2, ⟨hk.1.1.2.2.2.1, ⟨hk.1.1.2.2.2.2.1, hk.1.1.2.2.2.2.2⟩⟩⟩⟩⟩⟩⟩)), (by (with_reducible repeat (first | apply Kd.V_alloc | apply Kd.V_drewN | apply Kd.V_drew)); exact Kd.V_mono HO0_2.out (fun _ hk => ⟨hk.1.1.1, ⟨hk.1.1.2.1, ⟨hk.1.1.2.2.1, ⟨hk.1.2, ⟨hk.2, ⟨hk.1.1.2.2.2.1, ⟨hk.1.1.2.2.2.2.1, hk.1.1.2.2.2.2.2⟩⟩⟩⟩⟩⟩⟩)), (by (with_reducible repeat (first | apply Kd.V_alloc | apply Kd.V_drewN | apply Kd.V_drew)); exact Kd.V_mono HO1_1.out (fun _ hk => ⟨hk.1.1.1, ⟨hk.1.1.2.1, ⟨hk.1.1.2.2.1, ⟨hk.1.2, ⟨hk.2, ⟨hk.1.1.2.2.2.1, ⟨hk.1.1.2.2.2.2.1, hk.1.1.2.2.2.2.2⟩⟩⟩⟩⟩⟩⟩)), (by (with_reducible repeat (first | apply Kd.N_alloc | apply Kd.N_drewN | apply Kd.N_drew)); exact Kd.N_mono HO294.out (fun _ hk => ⟨hk.1.1.1, ⟨hk.1.1.2.1, ⟨hk.1.2, ⟨hk.2, ⟨hk.1.1.2.2.1, ⟨hk.1.1.2.2.2.1, hk.1.1.2.2.2.2⟩⟩⟩⟩⟩⟩)), (by (with_reducible repeat (first | apply Kd.N_alloc | apply Kd.N_drewN | apply Kd.N_drew)); exact Kd.N_mono HO297.out (fun _ hk => ⟨hk.1.1.1, ⟨hk.1.2, ⟨hk.2, ⟨hk.1.1.2.1, ⟨hk.1.1.2.2.1, hk.1.1.2.2.2⟩⟩⟩⟩⟩)), (by (with_reducible repeat (first | apply Kd.N_alloc | apply Kd.N_drewN | apply Kd.N_drew)); exact Kd.N_mono HO303.out (fun _ hk => ⟨hk.1.1, ⟨hk.1.2.1, ⟨hk.1.2.2.1, ⟨hk.2, ⟨hk.1.2.2.2.1, ⟨hk.1.2.2.2.2.1, hk.1.2.2.2.2.2⟩⟩⟩⟩⟩⟩)), (by (with_reducible repeat (first | apply Kd.N_alloc | apply Kd.N_drewN | apply Kd.N_drew)); exact HO306.out), (by (with_reducible repeat (first | refine blk_drewN ?_ _ | refine blk_drew ?_ | refine blk_alloc ?_ _)); exact BK283.out), (by (with_reducible repeat (first | refine blk_drewN ?_ _ | refine blk_drew ?_ | refine blk_alloc ?_ _)); exact BK284.out), (by (with_reducible repeat (first | refine blk_drewN ?_ _ | refine blk_drew ?_ | refine blk_alloc ?_ _)); exact BK285.out), (by repeat (first | (with_reducible first | exact HB.out | apply below_alloc | apply pw_below_drewN | apply below_drew1 | refine below_set ?_ GE283.out | refine below_set ?_ GE284.out | refine below_set ?_ GE285.out) | exact HB.out))⟩)
                · skip
                  refine Kd.N_lit_step (Kd.slice 26 (Kd.int .u32)) _ 27 ?hg (N' := 27) ?hd (xs := ([l1_1] : List (List Int))) (inner := [.slice A1_1 l1_1.length c1_1]) (ok := (fun k_ => ((P0_1_ k_ ∨ P0_2_ k_ ∨ P1_1_ k_) ∨ w.heap.size ≤ k_) ∧ some k_ ≠ (.slice Ao30 y292.length co30 : Value).ownBlock ∧ some k_ ≠ (.slice Ao31 y295.length co31 : Value).ownBlock ∧ some k_ ≠ (v299 : Value).ownBlock ∧ k_ ≠ gb283 ∧ k_ ≠ gb284 ∧ k_ ≠ gb285)) (okp := (fun k_ => ((P0_1_ k_ ∨ P0_2_ k_ ∨ P1_1_ k_) ∨ w.heap.size ≤ k_) ∧ some k_ ≠ (.slice Ao30 y292.length co30 : Value).ownBlock ∧ some k_ ≠ (.slice Ao31 y295.length co31 : Value).ownBlock ∧ some k_ ≠ (v299 : Value).ownBlock ∧ k_ ≠ gb283 ∧ k_ ≠ gb284 ∧ k_ ≠ gb285)) ?hr ?hp (fun _ hk => hk) ((show ∀ k_, w35.heap.size ≤ k_ → (fun k_ => ((P0_1_ k_ ∨ P0_2_ k_ ∨ P1_1_ k_) ∨ w.heap.size ≤ k_) ∧ some k_ ≠ (.slice Ao30 y292.length co30 : Value).ownBlock ∧ some k_ ≠ (.slice Ao31 y295.length co31 : Value).ownBlock ∧ some k_ ≠ (v299 : Value).ownBlock ∧ k_ ≠ gb283 ∧ k_ ≠ gb284 ∧ k_ ≠ gb285) k_ from fun k_ hk => ⟨(.inr (Nat.le_trans (below_size (by repeat (first | (with_reducible first | exact HB.out | apply below_alloc | apply pw_below_drewN | apply below_drew1 | refine below_set ?_ GE283.out | refine below_set ?_ GE284.out | refine below_set ?_ GE285.out) | exact HB.out))) hk)), Kd.fresh' (Kd.N_lt (by (with_reducible repeat (first | apply Kd.N_alloc | apply Kd.N_drewN | apply Kd.N_drew)); exact HO294.out)) k_ hk, Kd.fresh' (Kd.N_lt (by (with_reducible repeat (first | apply Kd.N_alloc | apply Kd.N_drewN | apply Kd.N_drew)); exact HO297.out)) k_ hk, Kd.fresh' (Kd.N_lt (by (with_reducible repeat (first | apply Kd.N_alloc | apply Kd.N_drewN | apply Kd.N_drew)); exact HO300.out)) k_ hk, fb_ BK283.out k_ hk, fb_ BK284.out k_ hk, fb_ BK285.out k_ hk⟩) _ (Nat.le_refl _)) (Below.refl _ _) (Nat.le_refl _) (by simp) ?_; (case hd => rfl); (case hg => rfl); (case hr => first | (go_simp; done) | (go_simp; rfl)); (case hp => exact (Reps.one (show Kd.FK (Kd.slice 26 (Kd.int .u32)) _ _ l1_1 [.slice A1_1 l1_1.length c1_1] from (Kd.FK_slice_mk (Kd.V_reads' (Kd.V_mono (ok' := (fun k_ => ((P0_1_ k_ ∨ P0_2_ k_ ∨ P1_1_ k_) ∨ w.heap.size ≤ k_) ∧ some k_ ≠ (.slice Ao30 y292.length co30 : Value).ownBlock ∧ some k_ ≠ (.slice Ao31 y295.length co31 : Value).ownBlock ∧ some k_ ≠ (v299 : Value).ownBlock ∧ k_ ≠ gb283 ∧ k_ ≠ gb284 ∧ k_ ≠ gb285)) (HO1_1.out) (fun k_ hk => ⟨hk.1.1, ⟨hk.1.2.1, ⟨hk.1.2.2.1, ⟨hk.2, ⟨hk.1.2.2.2.1, ⟨hk.1.2.2.2.2.1, hk.1.2.2.2.2.2⟩⟩⟩⟩⟩⟩))).2.1 (Kd.V_F (Kd.V_mono (ok' := (fun k_ => ((P0_1_ k_ ∨ P0_2_ k_ ∨ P1_1_ k_) ∨ w.heap.size ≤ k_) ∧ some k_ ≠ (.slice Ao30 y292.length co30 : Value).ownBlock ∧ some k_ ≠ (.slice Ao31 y295.length co31 : Value).ownBlock ∧ some k_ ≠ (v299 : Value).ownBlock ∧ k_ ≠ gb283 ∧ k_ ≠ gb284 ∧ k_ ≠ gb285)) (HO1_1.out) (fun k_ hk => ⟨hk.1.1, ⟨hk.1.2.1, ⟨hk.1.2.2.1, ⟨hk.2, ⟨hk.1.2.2.2.1, ⟨hk.1.2.2.2.2.1, hk.1.2.2.2.2.2⟩⟩⟩⟩⟩⟩))))) (Reps.none _ _)))
                  intro v305 w37 ho38 hb hg_ hnew_
                  clear hg_ hnew_
                  (first | rw [← Ny304.out] at ho38 | (simp only [Int.reduceToNat] at ho38; rw [← Ny304.out] at ho38))
                  have n0_ := Aside0.mk (vf_ HO0_1.out (Kd.N_base ho38) hb)
                  have n1_ := Aside0.mk (vf_ HO0_2.out (Kd.N_base ho38) hb)
                  have n2_ := Aside0.mk (vf_ HO1_1.out (Kd.N_base ho38) hb)
                  have n3_ := Aside0.mk (nf_ HO294.out (Kd.N_base ho38) hb)
                  have n4_ := Aside0.mk (nf_ HO297.out (Kd.N_base ho38) hb)
                  have n5_ := Aside0.mk (nf_ HO300.out (Kd.N_base ho38) hb)
                  have n6_ := Aside0.mk (Kd.N_lower ho38 (below_size (by repeat (first | (with_reducible first | exact HB.out | apply below_alloc | apply pw_below_drewN | apply below_drew1 | refine below_set ?_ GE283.out | refine below_set ?_ GE284.out | refine below_set ?_ GE285.out) | exact HB.out))))
                  have n7_ := Aside0.mk (bb_ BK283.out hb)
                  have n8_ := Aside0.mk (bb_ BK284.out hb)
                  have n9_ := Aside0.mk (bb_ BK285.out hb)
                  have n10_ := Aside0.mk (bs_ hb)
                  clear HO0_1 HO0_2 HO1_1 HO294 HO297 HO300 BK283 BK284 BK285 HB
                  have HO0_1 := n0_
                  have HO0_2 := n1_
                  have HO1_1 := n2_
                  have HO294 := n3_
                  have HO297 := n4_
                  have HO300 := n5_
                  have HO306 := n6_
                  have BK283 := n7_
                  have BK284 := n8_
                  have BK285 := n9_
                  have HB := n10_
                  clear n0_ n1_ n2_ n3_ n4_ n5_ n6_ n7_ n8_ n9_ n10_
                  clear hb ho38
                  refine hK.out _ _ ⟨(blk_cell BK283.out 0).trans rfl, (blk_cell BK283.out 1).trans rfl, (blk_cell BK283.out 2).trans rfl, (blk_cell BK284.out 0).trans rfl, (blk_cell BK284.out 1).trans rfl⟩ (fun hHeld => ?_)
                  clear hK K
                  refine norm_ (a' := ?_) ?_ ?_
                  rotate_left
                  · show Act.put _ (some 27) _ = _
                    simp only [Act.put, List.setIfInBounds_toArray, List.set_cons_zero, List.set_cons_succ, i64_w, i32_w]
                    rfl
                  refine one_ (i := 3) (N := some 24) #[true, true, true, true, true, true, true, false, false, false] rfl rfl (one_of HT_.out (by kernel_rfl)) (by decide) (fun K hK => ?_)
                  refine Kd.N_append_rows_step (Kd.slice 26 (Kd.int .u32)) (w0 := w) w.heap.size (by rfl) (.tmp 21) (.tmp 23) 23 27 (.slice none 0 0) 24 rfl Try.underlying23 info27 rfl (by decide) (by omega) v299 y298 l0_2 _ _ _ (fun k_ => ((P0_1_ k_ ∨ P0_2_ k_ ∨ P1_1_ k_) ∨ w.heap.size ≤ k_) ∧ some k_ ≠ (.slice Ao30 y292.length co30 : Value).ownBlock ∧ some k_ ≠ (.slice Ao31 y295.length co31 : Value).ownBlock ∧ some k_ ≠ (v305 : Value).ownBlock ∧ k_ ≠ gb283 ∧ k_ ≠ gb284 ∧ k_ ≠ gb285) (fun k_ => ((fun k_ => ((P0_1_ k_ ∨ P0_2_ k_ ∨ P1_1_ k_) ∨ w.heap.size ≤ k_) ∧ some k_ ≠ (.slice Ao30 y292.length co30 : Value).ownBlock ∧ some k_ ≠ (.slice Ao31 y295.length co31 : Value).ownBlock ∧ some k_ ≠ (v305 : Value).ownBlock ∧ k_ ≠ gb283 ∧ k_ ≠ gb284 ∧ k_ ≠ gb285)) k_ ∧ some k_ ≠ (v299 : Value).ownBlock) rfl rfl ?aO ?aR (fun _ hk => hk) ?aF ?aB ?aS ?aL ?_
                  (case aR => exact (by skip; exact Kd.V_F (Kd.V_mono (ok' := (fun k_ => ((fun k_ => ((P0_1_ k_ ∨ P0_2_ k_ ∨ P1_1_ k_) ∨ w.heap.size ≤ k_) ∧ some k_ ≠ (.slice Ao30 y292.length co30 : Value).ownBlock ∧ some k_ ≠ (.slice Ao31 y295.length co31 : Value).ownBlock ∧ some k_ ≠ (v305 : Value).ownBlock ∧ k_ ≠ gb283 ∧ k_ ≠ gb284 ∧ k_ ≠ gb285)) k_ ∧ some k_ ≠ (v299 : Value).ownBlock)) (HO0_2.out) (fun k_ hk => ⟨⟨hk.1.1.1, ⟨hk.1.1.2.1, ⟨hk.1.1.2.2.1, ⟨hk.2, ⟨hk.1.1.2.2.2.1, ⟨hk.1.1.2.2.2.2.1, hk.1.1.2.2.2.2.2⟩⟩⟩⟩⟩⟩, hk.1.2⟩))))
                  (case aB => exact (by repeat (first | (with_reducible first | exact HB.out | apply below_alloc | apply pw_below_drewN | apply below_drew1 | refine below_set ?_ GE283.out | refine below_set ?_ GE284.out | refine below_set ?_ GE285.out) | exact HB.out)))
                  (case aF => exact (fun k_ hk => ⟨(.inr (Nat.le_trans (below_size (by repeat (first | (with_reducible first | exact HB.out | apply below_alloc | apply pw_below_drewN | apply below_drew1 | refine below_set ?_ GE283.out | refine below_set ?_ GE284.out | refine below_set ?_ GE285.out) | exact HB.out))) hk)), Kd.fresh' (Kd.N_lt (by (with_reducible repeat (first | apply Kd.N_alloc | apply Kd.N_drewN | apply Kd.N_drew)); exact HO294.out)) k_ hk, Kd.fresh' (Kd.N_lt (by (with_reducible repeat (first | apply Kd.N_alloc | apply Kd.N_drewN | apply Kd.N_drew)); exact HO297.out)) k_ hk, Kd.fresh' (Kd.N_lt (by (with_reducible repeat (first | apply Kd.N_alloc | apply Kd.N_drewN | apply Kd.N_drew)); exact HO306.out)) k_ hk, fb_ BK283.out k_ hk, fb_ BK284.out k_ hk, fb_ BK285.out k_ hk⟩))
                  (case aO => exact (by (with_reducible repeat (first | apply Kd.N_alloc | apply Kd.N_drewN | apply Kd.N_drew)); exact Kd.N_mono HO300.out (fun _ hk => ⟨hk.1.1, ⟨hk.1.2.1, ⟨hk.1.2.2.1, ⟨hk.2, ⟨hk.1.2.2.2.1, ⟨hk.1.2.2.2.2.1, hk.1.2.2.2.2.2⟩⟩⟩⟩⟩⟩)))
                  (case aS => exact (below_size (by repeat (first | (with_reducible first | exact HB.out | apply below_alloc | apply pw_below_drewN | apply below_drew1 | refine below_set ?_ GE283.out | refine below_set ?_ GE284.out | refine below_set ?_ GE285.out) | exact HB.out))))
                  (case aL => have := LMc14.out; omega)
                  intro v302 w39 ho hb hg hat
                  rw [← Ny301.out] at ho
                  have n0_ := Aside0.mk (Kd.V_afterv (ok := (fun k_ => ((P0_1_ k_ ∨ P0_2_ k_ ∨ P1_1_ k_) ∨ w.heap.size ≤ k_) ∧ some k_ ≠ (.slice Ao30 y292.length co30 : Value).ownBlock ∧ some k_ ≠ (.slice Ao31 y295.length co31 : Value).ownBlock ∧ some k_ ≠ (v305 : Value).ownBlock ∧ k_ ≠ gb283 ∧ k_ ≠ gb284 ∧ k_ ≠ gb285)) (by (with_reducible repeat (first | apply Kd.V_alloc | apply Kd.V_drewN | apply Kd.V_drew)); exact Kd.V_mono HO0_1.out (fun _ hk => ⟨⟨hk.1.1.1, ⟨hk.1.1.2.1, ⟨hk.1.1.2.2.1, ⟨hk.2, ⟨hk.1.1.2.2.2.1, ⟨hk.1.1.2.2.2.2.1, hk.1.1.2.2.2.2.2⟩⟩⟩⟩⟩⟩, hk.1.2⟩)) hg hat)
                  have n1_ := Aside0.mk (Kd.V_afterv (ok := (fun k_ => ((P0_1_ k_ ∨ P0_2_ k_ ∨ P1_1_ k_) ∨ w.heap.size ≤ k_) ∧ some k_ ≠ (.slice Ao30 y292.length co30 : Value).ownBlock ∧ some k_ ≠ (.slice Ao31 y295.length co31 : Value).ownBlock ∧ some k_ ≠ (v305 : Value).ownBlock ∧ k_ ≠ gb283 ∧ k_ ≠ gb284 ∧ k_ ≠ gb285)) (by (with_reducible repeat (first | apply Kd.V_alloc | apply Kd.V_drewN | apply Kd.V_drew)); exact Kd.V_mono HO0_2.out (fun _ hk => ⟨⟨hk.1.1.1, ⟨hk.1.1.2.1, ⟨hk.1.1.2.2.1, ⟨hk.2, ⟨hk.1.1.2.2.2.1, ⟨hk.1.1.2.2.2.2.1, hk.1.1.2.2.2.2.2⟩⟩⟩⟩⟩⟩, hk.1.2⟩)) hg hat)
                  have n2_ := Aside0.mk (Kd.V_afterv (ok := (fun k_ => ((P0_1_ k_ ∨ P0_2_ k_ ∨ P1_1_ k_) ∨ w.heap.size ≤ k_) ∧ some k_ ≠ (.slice Ao30 y292.length co30 : Value).ownBlock ∧ some k_ ≠ (.slice Ao31 y295.length co31 : Value).ownBlock ∧ some k_ ≠ (v305 : Value).ownBlock ∧ k_ ≠ gb283 ∧ k_ ≠ gb284 ∧ k_ ≠ gb285)) (by (with_reducible repeat (first | apply Kd.V_alloc | apply Kd.V_drewN | apply Kd.V_drew)); exact Kd.V_mono HO1_1.out (fun _ hk => ⟨⟨hk.1.1.1, ⟨hk.1.1.2.1, ⟨hk.1.1.2.2.1, ⟨hk.2, ⟨hk.1.1.2.2.2.1, ⟨hk.1.1.2.2.2.2.1, hk.1.1.2.2.2.2.2⟩⟩⟩⟩⟩⟩, hk.1.2⟩)) hg hat)
                  have n3_ := Aside0.mk (blk_grown (g := gb283) (o := .cells #[.int .i64 a0_0, .slice Ao31 y295.length co31, .slice A0_2 l0_2.length c0_2] 25 (0, 0)) (by (with_reducible repeat (first | refine blk_drewN ?_ _ | refine blk_drew ?_ | refine blk_alloc ?_ _)); exact BK283.out) hg (Kd.N_ne HO300.out BK283.out (by decide)))
                  have n4_ := Aside0.mk (blk_grown (g := gb284) (o := .cells #[.int .u32 a1_0, .slice A1_1 l1_1.length c1_1] 29 (0, 0)) (by (with_reducible repeat (first | refine blk_drewN ?_ _ | refine blk_drew ?_ | refine blk_alloc ?_ _)); exact BK284.out) hg (Kd.N_ne HO300.out BK284.out (by decide)))
                  have n5_ := Aside0.mk (blk_grown (g := gb285) (o := .cells #[.int .i64 0, .slice none 0 0, .slice none 0 0] 25 (0, 0)) (by (with_reducible repeat (first | refine blk_drewN ?_ _ | refine blk_drew ?_ | refine blk_alloc ?_ _)); exact BK285.out) hg (Kd.N_ne HO300.out BK285.out (by decide)))
                  have n6_ := Aside0.mk (Kd.N_afterv (ok := (fun k_ => ((P0_1_ k_ ∨ P0_2_ k_ ∨ P1_1_ k_) ∨ w.heap.size ≤ k_) ∧ some k_ ≠ (.slice Ao31 y295.length co31 : Value).ownBlock ∧ some k_ ≠ (v305 : Value).ownBlock ∧ k_ ≠ gb283 ∧ k_ ≠ gb284 ∧ k_ ≠ gb285)) (by (with_reducible repeat (first | apply Kd.N_alloc | apply Kd.N_drewN | apply Kd.N_drew)); exact Kd.N_mono HO294.out (fun _ hk => ⟨⟨hk.1.1.1, ⟨hk.1.1.2.1, ⟨hk.2, ⟨hk.1.1.2.2.1, ⟨hk.1.1.2.2.2.1, hk.1.1.2.2.2.2⟩⟩⟩⟩⟩, hk.1.2⟩)) hg hat)
                  have n7_ := Aside0.mk (Kd.N_afterv (ok := (fun k_ => ((P0_1_ k_ ∨ P0_2_ k_ ∨ P1_1_ k_) ∨ w.heap.size ≤ k_) ∧ some k_ ≠ (v305 : Value).ownBlock ∧ k_ ≠ gb283 ∧ k_ ≠ gb284 ∧ k_ ≠ gb285)) (by (with_reducible repeat (first | apply Kd.N_alloc | apply Kd.N_drewN | apply Kd.N_drew)); exact Kd.N_mono HO297.out (fun _ hk => ⟨⟨hk.1.1.1, ⟨hk.2, ⟨hk.1.1.2.1, ⟨hk.1.1.2.2.1, hk.1.1.2.2.2⟩⟩⟩⟩, hk.1.2⟩)) hg hat)
                  have n8_ := Aside0.mk (Kd.N_afterv (ok := (fun k_ => ((P0_1_ k_ ∨ P0_2_ k_ ∨ P1_1_ k_) ∨ w.heap.size ≤ k_) ∧ some k_ ≠ (.slice Ao30 y292.length co30 : Value).ownBlock ∧ some k_ ≠ (.slice Ao31 y295.length co31 : Value).ownBlock ∧ k_ ≠ gb283 ∧ k_ ≠ gb284 ∧ k_ ≠ gb285)) (by (with_reducible repeat (first | apply Kd.N_alloc | apply Kd.N_drewN | apply Kd.N_drew)); exact Kd.N_mono HO306.out (fun _ hk => ⟨⟨hk.1, ⟨hk.2.1, ⟨hk.2.2.1, ⟨hk.2.2.2.2.1, ⟨hk.2.2.2.2.2.1, hk.2.2.2.2.2.2⟩⟩⟩⟩⟩, hk.2.2.2.1⟩)) hg hat)
                  have n9_ := Aside0.mk (hb)
                  have n10_ := Aside0.mk (ho)
                  clear HO0_1 HO0_2 HO1_1 BK283 BK284 BK285 HO294 HO297 HO306 HB HO300
                  have HO0_1 := n0_
                  have HO0_2 := n1_
                  have HO1_1 := n2_
                  have BK283 := n3_
                  have BK284 := n4_
                  have BK285 := n5_
                  have HO294 := n6_
                  have HO297 := n7_
                  have HO306 := n8_
                  have HB := n9_
                  have HO303 := n10_
                  clear n0_ n1_ n2_ n3_ n4_ n5_ n6_ n7_ n8_ n9_ n10_
                  clear ho hb hg hat
                  refine hK.out _ _ ⟨(blk_cell BK283.out 0).trans rfl, (blk_cell BK283.out 1).trans rfl, (blk_cell BK283.out 2).trans rfl, (blk_cell BK284.out 0).trans rfl, (blk_cell BK284.out 1).trans rfl⟩ (fun hHeld => ?_)
                  clear hK K
                  refine norm_ (a' := ?_) ?_ ?_
                  rotate_left
                  · show Act.put _ (some 24) _ = _
                    simp only [Act.put, List.setIfInBounds_toArray, List.set_cons_zero, List.set_cons_succ, i64_w, i32_w]
                    rfl
                  exact norm_ (by simp only [putAll, Act.put, List.setIfInBounds_toArray, List.set_cons_zero, List.set_cons_succ]) (hCont (v299, v302, v305) _ ⟨hHeld, (by (with_reducible repeat (first | apply Kd.V_alloc | apply Kd.V_drewN | apply Kd.V_drew)); exact Kd.V_mono HO0_1.out (fun _ hk => ⟨hk.1.1, ⟨hk.1.2.1, ⟨hk.1.2.2.1, ⟨hk.2, ⟨hk.1.2.2.2.1, ⟨hk.1.2.2.2.2.1, ⟨hk.1.2.2.2.2.2.1, hk.1.2.2.2.2.2.2⟩⟩⟩⟩⟩⟩⟩)), (by (with_reducible repeat (first | apply Kd.V_alloc | apply Kd.V_drewN | apply Kd.V_drew)); exact Kd.V_mono HO0_2.out (fun _ hk => ⟨hk.1.1, ⟨hk.1.2.1, ⟨hk.1.2.2.1, ⟨hk.2, ⟨hk.1.2.2.2.1, ⟨hk.1.2.2.2.2.1, ⟨hk.1.2.2.2.2.2.1, hk.1.2.2.2.2.2.2⟩⟩⟩⟩⟩⟩⟩)), (by (with_reducible repeat (first | apply Kd.V_alloc | apply Kd.V_drewN | apply Kd.V_drew)); exact Kd.V_mono HO1_1.out (fun _ hk => ⟨hk.1.1, ⟨hk.1.2.1, ⟨hk.1.2.2.1, ⟨hk.2, ⟨hk.1.2.2.2.1, ⟨hk.1.2.2.2.2.1, ⟨hk.1.2.2.2.2.2.1, hk.1.2.2.2.2.2.2⟩⟩⟩⟩⟩⟩⟩)), (by (with_reducible repeat (first | apply Kd.N_alloc | apply Kd.N_drewN | apply Kd.N_drew)); exact Kd.N_mono HO294.out (fun _ hk => ⟨hk.1.1, ⟨hk.1.2.1, ⟨hk.2, ⟨hk.1.2.2.1, ⟨hk.1.2.2.2.1, ⟨hk.1.2.2.2.2.1, hk.1.2.2.2.2.2⟩⟩⟩⟩⟩⟩)), (by (with_reducible repeat (first | apply Kd.N_alloc | apply Kd.N_drewN | apply Kd.N_drew)); exact Kd.N_mono HO297.out (fun _ hk => ⟨hk.1.1, ⟨hk.2, ⟨hk.1.2.1, ⟨hk.1.2.2.1, ⟨hk.1.2.2.2.1, hk.1.2.2.2.2⟩⟩⟩⟩⟩)), (by (with_reducible repeat (first | apply Kd.N_alloc | apply Kd.N_drewN | apply Kd.N_drew)); exact HO303.out), (by (with_reducible repeat (first | apply Kd.N_alloc | apply Kd.N_drewN | apply Kd.N_drew)); exact Kd.N_mono HO306.out (fun _ hk => ⟨hk.1.1, ⟨hk.1.2.1, ⟨hk.1.2.2.1, ⟨hk.2, ⟨hk.1.2.2.2.1, ⟨hk.1.2.2.2.2.1, hk.1.2.2.2.2.2⟩⟩⟩⟩⟩⟩)), (by (with_reducible repeat (first | refine blk_drewN ?_ _ | refine blk_drew ?_ | refine blk_alloc ?_ _)); exact BK283.out), (by (with_reducible repeat (first | refine blk_drewN ?_ _ | refine blk_drew ?_ | refine blk_alloc ?_ _)); exact BK284.out), (by (with_reducible repeat (first | refine blk_drewN ?_ _ | refine blk_drew ?_ | refine blk_alloc ?_ _)); exact BK285.out), (by repeat (first | (with_reducible first | exact HB.out | apply below_alloc | apply pw_below_drewN | apply below_drew1 | refine below_set ?_ GE283.out | refine below_set ?_ GE284.out | refine below_set ?_ GE285.out) | exact HB.out))⟩)
              · skip
                refine Kd.N_lit_step (Kd.slice 26 (Kd.int .u32)) _ 27 ?hg (N' := 27) ?hd (xs := ([l1_1] : List (List Int))) (inner := [.slice A1_1 l1_1.length c1_1]) (ok := (fun k_ => ((P0_1_ k_ ∨ P0_2_ k_ ∨ P1_1_ k_) ∨ w.heap.size ≤ k_) ∧ some k_ ≠ (.slice Ao30 y292.length co30 : Value).ownBlock ∧ some k_ ≠ (.slice Ao31 y295.length co31 : Value).ownBlock ∧ k_ ≠ gb283 ∧ k_ ≠ gb284 ∧ k_ ≠ gb285)) (okp := (fun k_ => ((P0_1_ k_ ∨ P0_2_ k_ ∨ P1_1_ k_) ∨ w.heap.size ≤ k_) ∧ some k_ ≠ (.slice Ao30 y292.length co30 : Value).ownBlock ∧ some k_ ≠ (.slice Ao31 y295.length co31 : Value).ownBlock ∧ k_ ≠ gb283 ∧ k_ ≠ gb284 ∧ k_ ≠ gb285)) ?hr ?hp (fun _ hk => hk) ((show ∀ k_, w34.heap.size ≤ k_ → (fun k_ => ((P0_1_ k_ ∨ P0_2_ k_ ∨ P1_1_ k_) ∨ w.heap.size ≤ k_) ∧ some k_ ≠ (.slice Ao30 y292.length co30 : Value).ownBlock ∧ some k_ ≠ (.slice Ao31 y295.length co31 : Value).ownBlock ∧ k_ ≠ gb283 ∧ k_ ≠ gb284 ∧ k_ ≠ gb285) k_ from fun k_ hk => ⟨(.inr (Nat.le_trans (below_size (by repeat (first | (with_reducible first | exact HB.out | apply below_alloc | apply pw_below_drewN | apply below_drew1 | refine below_set ?_ GE283.out | refine below_set ?_ GE284.out | refine below_set ?_ GE285.out) | exact HB.out))) hk)), Kd.fresh' (Kd.N_lt (by (with_reducible repeat (first | apply Kd.N_alloc | apply Kd.N_drewN | apply Kd.N_drew)); exact HO294.out)) k_ hk, Kd.fresh' (Kd.N_lt (by (with_reducible repeat (first | apply Kd.N_alloc | apply Kd.N_drewN | apply Kd.N_drew)); exact HO297.out)) k_ hk, fb_ BK283.out k_ hk, fb_ BK284.out k_ hk, fb_ BK285.out k_ hk⟩) _ (Nat.le_refl _)) (Below.refl _ _) (Nat.le_refl _) (by simp) ?_; (case hd => rfl); (case hg => rfl); (case hr => first | (go_simp; done) | (go_simp; rfl)); (case hp => exact (Reps.one (show Kd.FK (Kd.slice 26 (Kd.int .u32)) _ _ l1_1 [.slice A1_1 l1_1.length c1_1] from (Kd.FK_slice_mk (Kd.V_reads' (Kd.V_mono (ok' := (fun k_ => ((P0_1_ k_ ∨ P0_2_ k_ ∨ P1_1_ k_) ∨ w.heap.size ≤ k_) ∧ some k_ ≠ (.slice Ao30 y292.length co30 : Value).ownBlock ∧ some k_ ≠ (.slice Ao31 y295.length co31 : Value).ownBlock ∧ k_ ≠ gb283 ∧ k_ ≠ gb284 ∧ k_ ≠ gb285)) (HO1_1.out) (fun k_ hk => ⟨hk.1, ⟨hk.2.1, ⟨hk.2.2.1, ⟨hk.2.2.2.1, ⟨hk.2.2.2.2.1, hk.2.2.2.2.2⟩⟩⟩⟩⟩))).2.1 (Kd.V_F (Kd.V_mono (ok' := (fun k_ => ((P0_1_ k_ ∨ P0_2_ k_ ∨ P1_1_ k_) ∨ w.heap.size ≤ k_) ∧ some k_ ≠ (.slice Ao30 y292.length co30 : Value).ownBlock ∧ some k_ ≠ (.slice Ao31 y295.length co31 : Value).ownBlock ∧ k_ ≠ gb283 ∧ k_ ≠ gb284 ∧ k_ ≠ gb285)) (HO1_1.out) (fun k_ hk => ⟨hk.1, ⟨hk.2.1, ⟨hk.2.2.1, ⟨hk.2.2.2.1, ⟨hk.2.2.2.2.1, hk.2.2.2.2.2⟩⟩⟩⟩⟩))))) (Reps.none _ _)))
                intro v305 w35 ho36 hb hg_ hnew_
                clear hg_ hnew_
                (first | rw [← Ny304.out] at ho36 | (simp only [Int.reduceToNat] at ho36; rw [← Ny304.out] at ho36))
                have n0_ := Aside0.mk (vf_ HO0_1.out (Kd.N_base ho36) hb)
                have n1_ := Aside0.mk (vf_ HO0_2.out (Kd.N_base ho36) hb)
                have n2_ := Aside0.mk (vf_ HO1_1.out (Kd.N_base ho36) hb)
                have n3_ := Aside0.mk (nf_ HO294.out (Kd.N_base ho36) hb)
                have n4_ := Aside0.mk (nf_ HO297.out (Kd.N_base ho36) hb)
                have n5_ := Aside0.mk (Kd.N_lower ho36 (below_size (by repeat (first | (with_reducible first | exact HB.out | apply below_alloc | apply pw_below_drewN | apply below_drew1 | refine below_set ?_ GE283.out | refine below_set ?_ GE284.out | refine below_set ?_ GE285.out) | exact HB.out))))
                have n6_ := Aside0.mk (bb_ BK283.out hb)
                have n7_ := Aside0.mk (bb_ BK284.out hb)
                have n8_ := Aside0.mk (bb_ BK285.out hb)
                have n9_ := Aside0.mk (bs_ hb)
                clear HO0_1 HO0_2 HO1_1 HO294 HO297 BK283 BK284 BK285 HB
                have HO0_1 := n0_
                have HO0_2 := n1_
                have HO1_1 := n2_
                have HO294 := n3_
                have HO297 := n4_
                have HO306 := n5_
                have BK283 := n6_
                have BK284 := n7_
                have BK285 := n8_
                have HB := n9_
                clear n0_ n1_ n2_ n3_ n4_ n5_ n6_ n7_ n8_ n9_
                clear hb ho36
                refine hK.out _ _ ⟨(blk_cell BK283.out 0).trans rfl, (blk_cell BK283.out 1).trans rfl, (blk_cell BK283.out 2).trans rfl, (blk_cell BK284.out 0).trans rfl, (blk_cell BK284.out 1).trans rfl⟩ (fun hHeld => ?_)
                clear hK K
                refine norm_ (a' := ?_) ?_ ?_
                rotate_left
                · show Act.put _ (some 27) _ = _
                  simp only [Act.put, List.setIfInBounds_toArray, List.set_cons_zero, List.set_cons_succ, i64_w, i32_w]
                  rfl
                refine one_ (i := 0) (N := some 21) #[true, true, true, false, true, true, true, false, false, false] rfl rfl (one_of HT_.out (by kernel_rfl)) (by decide) (fun K hK => ?_)
                refine Kd.N_lit_step (Kd.slice 26 (Kd.int .u32)) _ 27 ?hg (N' := 21) ?hd (xs := ([] : List (List Int))) (inner := []) (ok := (fun k_ => ((P0_1_ k_ ∨ P0_2_ k_ ∨ P1_1_ k_) ∨ w.heap.size ≤ k_) ∧ some k_ ≠ (.slice Ao30 y292.length co30 : Value).ownBlock ∧ some k_ ≠ (.slice Ao31 y295.length co31 : Value).ownBlock ∧ some k_ ≠ (v305 : Value).ownBlock ∧ k_ ≠ gb283 ∧ k_ ≠ gb284 ∧ k_ ≠ gb285)) (okp := (fun k_ => ((P0_1_ k_ ∨ P0_2_ k_ ∨ P1_1_ k_) ∨ w.heap.size ≤ k_) ∧ some k_ ≠ (.slice Ao30 y292.length co30 : Value).ownBlock ∧ some k_ ≠ (.slice Ao31 y295.length co31 : Value).ownBlock ∧ some k_ ≠ (v305 : Value).ownBlock ∧ k_ ≠ gb283 ∧ k_ ≠ gb284 ∧ k_ ≠ gb285)) ?hr ?hp (fun _ hk => hk) ((show ∀ k_, w35.heap.size ≤ k_ → (fun k_ => ((P0_1_ k_ ∨ P0_2_ k_ ∨ P1_1_ k_) ∨ w.heap.size ≤ k_) ∧ some k_ ≠ (.slice Ao30 y292.length co30 : Value).ownBlock ∧ some k_ ≠ (.slice Ao31 y295.length co31 : Value).ownBlock ∧ some k_ ≠ (v305 : Value).ownBlock ∧ k_ ≠ gb283 ∧ k_ ≠ gb284 ∧ k_ ≠ gb285) k_ from fun k_ hk => ⟨(.inr (Nat.le_trans (below_size (by repeat (first | (with_reducible first | exact HB.out | apply below_alloc | apply pw_below_drewN | apply below_drew1 | refine below_set ?_ GE283.out | refine below_set ?_ GE284.out | refine below_set ?_ GE285.out) | exact HB.out))) hk)), Kd.fresh' (Kd.N_lt (by (with_reducible repeat (first | apply Kd.N_alloc | apply Kd.N_drewN | apply Kd.N_drew)); exact HO294.out)) k_ hk, Kd.fresh' (Kd.N_lt (by (with_reducible repeat (first | apply Kd.N_alloc | apply Kd.N_drewN | apply Kd.N_drew)); exact HO297.out)) k_ hk, Kd.fresh' (Kd.N_lt (by (with_reducible repeat (first | apply Kd.N_alloc | apply Kd.N_drewN | apply Kd.N_drew)); exact HO306.out)) k_ hk, fb_ BK283.out k_ hk, fb_ BK284.out k_ hk, fb_ BK285.out k_ hk⟩) _ (Nat.le_refl _)) (Below.refl _ _) (Nat.le_refl _) (by simp) ?_; (case hd => rfl); (case hg => rfl); (case hr => first | (go_simp; done) | (go_simp; rfl)); (case hp => exact (Reps.none _ _))
                intro v299 w37 ho38 hb hg_ hnew_
                clear hg_ hnew_
                (first | rw [← Ny298.out] at ho38 | (simp only [Int.reduceToNat] at ho38; rw [← Ny298.out] at ho38))
                have n0_ := Aside0.mk (vf_ HO0_1.out (Kd.N_base ho38) hb)
                have n1_ := Aside0.mk (vf_ HO0_2.out (Kd.N_base ho38) hb)
                have n2_ := Aside0.mk (vf_ HO1_1.out (Kd.N_base ho38) hb)
                have n3_ := Aside0.mk (nf_ HO294.out (Kd.N_base ho38) hb)
                have n4_ := Aside0.mk (nf_ HO297.out (Kd.N_base ho38) hb)
                have n5_ := Aside0.mk (nf_ HO306.out (Kd.N_base ho38) hb)
                have n6_ := Aside0.mk (Kd.N_lower ho38 (below_size (by repeat (first | (with_reducible first | exact HB.out | apply below_alloc | apply pw_below_drewN | apply below_drew1 | refine below_set ?_ GE283.out | refine below_set ?_ GE284.out | refine below_set ?_ GE285.out) | exact HB.out))))
                have n7_ := Aside0.mk (bb_ BK283.out hb)
                have n8_ := Aside0.mk (bb_ BK284.out hb)
                have n9_ := Aside0.mk (bb_ BK285.out hb)
                have n10_ := Aside0.mk (bs_ hb)
                clear HO0_1 HO0_2 HO1_1 HO294 HO297 HO306 BK283 BK284 BK285 HB
                have HO0_1 := n0_
                have HO0_2 := n1_
                have HO1_1 := n2_
                have HO294 := n3_
                have HO297 := n4_
                have HO306 := n5_
                have HO300 := n6_
                have BK283 := n7_
                have BK284 := n8_
                have BK285 := n9_
                have HB := n10_
                clear n0_ n1_ n2_ n3_ n4_ n5_ n6_ n7_ n8_ n9_ n10_
                clear hb ho38
                refine hK.out _ _ ⟨(blk_cell BK283.out 0).trans rfl, (blk_cell BK283.out 1).trans rfl, (blk_cell BK283.out 2).trans rfl, (blk_cell BK284.out 0).trans rfl, (blk_cell BK284.out 1).trans rfl⟩ (fun hHeld => ?_)
                clear hK K
                refine norm_ (a' := ?_) ?_ ?_
                rotate_left
                · show Act.put _ (some 21) _ = _
                  simp only [Act.put, List.setIfInBounds_toArray, List.set_cons_zero, List.set_cons_succ, i64_w, i32_w]
                  rfl
                refine one_ (i := 3) (N := some 24) #[true, true, true, true, true, true, true, false, false, false] rfl rfl (one_of HT_.out (by kernel_rfl)) (by decide) (fun K hK => ?_)
                refine Kd.N_append_rows_step (Kd.slice 26 (Kd.int .u32)) (w0 := w) w.heap.size (by rfl) (.tmp 21) (.tmp 23) 23 27 (.slice none 0 0) 24 rfl Try.underlying23 info27 rfl (by decide) (by omega) v299 y298 l0_2 _ _ _ (fun k_ => ((P0_1_ k_ ∨ P0_2_ k_ ∨ P1_1_ k_) ∨ w.heap.size ≤ k_) ∧ some k_ ≠ (.slice Ao30 y292.length co30 : Value).ownBlock ∧ some k_ ≠ (.slice Ao31 y295.length co31 : Value).ownBlock ∧ some k_ ≠ (v305 : Value).ownBlock ∧ k_ ≠ gb283 ∧ k_ ≠ gb284 ∧ k_ ≠ gb285) (fun k_ => ((fun k_ => ((P0_1_ k_ ∨ P0_2_ k_ ∨ P1_1_ k_) ∨ w.heap.size ≤ k_) ∧ some k_ ≠ (.slice Ao30 y292.length co30 : Value).ownBlock ∧ some k_ ≠ (.slice Ao31 y295.length co31 : Value).ownBlock ∧ some k_ ≠ (v305 : Value).ownBlock ∧ k_ ≠ gb283 ∧ k_ ≠ gb284 ∧ k_ ≠ gb285)) k_ ∧ some k_ ≠ (v299 : Value).ownBlock) rfl rfl ?aO ?aR (fun _ hk => hk) ?aF ?aB ?aS ?aL ?_
                (case aR => exact (by skip; exact Kd.V_F (Kd.V_mono (ok' := (fun k_ => ((fun k_ => ((P0_1_ k_ ∨ P0_2_ k_ ∨ P1_1_ k_) ∨ w.heap.size ≤ k_) ∧ some k_ ≠ (.slice Ao30 y292.length co30 : Value).ownBlock ∧ some k_ ≠ (.slice Ao31 y295.length co31 : Value).ownBlock ∧ some k_ ≠ (v305 : Value).ownBlock ∧ k_ ≠ gb283 ∧ k_ ≠ gb284 ∧ k_ ≠ gb285)) k_ ∧ some k_ ≠ (v299 : Value).ownBlock)) (HO0_2.out) (fun k_ hk => ⟨⟨hk.1.1.1, ⟨hk.1.1.2.1, ⟨hk.1.1.2.2.1, ⟨hk.1.2, ⟨hk.1.1.2.2.2.1, ⟨hk.1.1.2.2.2.2.1, hk.1.1.2.2.2.2.2⟩⟩⟩⟩⟩⟩, hk.2⟩))))
                (case aB => exact (by repeat (first | (with_reducible first | exact HB.out | apply below_alloc | apply pw_below_drewN | apply below_drew1 | refine below_set ?_ GE283.out | refine below_set ?_ GE284.out | refine below_set ?_ GE285.out) | exact HB.out)))
                (case aF => exact (fun k_ hk => ⟨(.inr (Nat.le_trans (below_size (by repeat (first | (with_reducible first | exact HB.out | apply below_alloc | apply pw_below_drewN | apply below_drew1 | refine below_set ?_ GE283.out | refine below_set ?_ GE284.out | refine below_set ?_ GE285.out) | exact HB.out))) hk)), Kd.fresh' (Kd.N_lt (by (with_reducible repeat (first | apply Kd.N_alloc | apply Kd.N_drewN | apply Kd.N_drew)); exact HO294.out)) k_ hk, Kd.fresh' (Kd.N_lt (by (with_reducible repeat (first | apply Kd.N_alloc | apply Kd.N_drewN | apply Kd.N_drew)); exact HO297.out)) k_ hk, Kd.fresh' (Kd.N_lt (by (with_reducible repeat (first | apply Kd.N_alloc | apply Kd.N_drewN | apply Kd.N_drew)); exact HO306.out)) k_ hk, fb_ BK283.out k_ hk, fb_ BK284.out k_ hk, fb_ BK285.out k_ hk⟩))
                (case aO => exact (by (with_reducible repeat (first | apply Kd.N_alloc | apply Kd.N_drewN | apply Kd.N_drew)); exact HO300.out))
                (case aS => exact (below_size (by repeat (first | (with_reducible first | exact HB.out | apply below_alloc | apply pw_below_drewN | apply below_drew1 | refine below_set ?_ GE283.out | refine below_set ?_ GE284.out | refine below_set ?_ GE285.out) | exact HB.out))))
                (case aL => have := LMc14.out; omega)
                intro v302 w39 ho hb hg hat
                rw [← Ny301.out] at ho
                have n0_ := Aside0.mk (Kd.V_afterv (ok := (fun k_ => ((P0_1_ k_ ∨ P0_2_ k_ ∨ P1_1_ k_) ∨ w.heap.size ≤ k_) ∧ some k_ ≠ (.slice Ao30 y292.length co30 : Value).ownBlock ∧ some k_ ≠ (.slice Ao31 y295.length co31 : Value).ownBlock ∧ some k_ ≠ (v305 : Value).ownBlock ∧ k_ ≠ gb283 ∧ k_ ≠ gb284 ∧ k_ ≠ gb285)) (by (with_reducible repeat (first | apply Kd.V_alloc | apply Kd.V_drewN | apply Kd.V_drew)); exact Kd.V_mono HO0_1.out (fun _ hk => ⟨⟨hk.1.1.1, ⟨hk.1.1.2.1, ⟨hk.1.1.2.2.1, ⟨hk.1.2, ⟨hk.1.1.2.2.2.1, ⟨hk.1.1.2.2.2.2.1, hk.1.1.2.2.2.2.2⟩⟩⟩⟩⟩⟩, hk.2⟩)) hg hat)
                have n1_ := Aside0.mk (Kd.V_afterv (ok := (fun k_ => ((P0_1_ k_ ∨ P0_2_ k_ ∨ P1_1_ k_) ∨ w.heap.size ≤ k_) ∧ some k_ ≠ (.slice Ao30 y292.length co30 : Value).ownBlock ∧ some k_ ≠ (.slice Ao31 y295.length co31 : Value).ownBlock ∧ some k_ ≠ (v305 : Value).ownBlock ∧ k_ ≠ gb283 ∧ k_ ≠ gb284 ∧ k_ ≠ gb285)) (by (with_reducible repeat (first | apply Kd.V_alloc | apply Kd.V_drewN | apply Kd.V_drew)); exact Kd.V_mono HO0_2.out (fun _ hk => ⟨⟨hk.1.1.1, ⟨hk.1.1.2.1, ⟨hk.1.1.2.2.1, ⟨hk.1.2, ⟨hk.1.1.2.2.2.1, ⟨hk.1.1.2.2.2.2.1, hk.1.1.2.2.2.2.2⟩⟩⟩⟩⟩⟩, hk.2⟩)) hg hat)
                have n2_ := Aside0.mk (Kd.V_afterv (ok := (fun k_ => ((P0_1_ k_ ∨ P0_2_ k_ ∨ P1_1_ k_) ∨ w.heap.size ≤ k_) ∧ some k_ ≠ (.slice Ao30 y292.length co30 : Value).ownBlock ∧ some k_ ≠ (.slice Ao31 y295.length co31 : Value).ownBlock ∧ some k_ ≠ (v305 : Value).ownBlock ∧ k_ ≠ gb283 ∧ k_ ≠ gb284 ∧ k_ ≠ gb285)) (by (with_reducible repeat (first | apply Kd.V_alloc | apply Kd.V_drewN | apply Kd.V_drew)); exact Kd.V_mono HO1_1.out (fun _ hk => ⟨⟨hk.1.1.1, ⟨hk.1.1.2.1, ⟨hk.1.1.2.2.1, ⟨hk.1.2, ⟨hk.1.1.2.2.2.1, ⟨hk.1.1.2.2.2.2.1, hk.1.1.2.2.2.2.2⟩⟩⟩⟩⟩⟩, hk.2⟩)) hg hat)
                have n3_ := Aside0.mk (blk_grown (g := gb283) (o := .cells #[.int .i64 a0_0, .slice Ao31 y295.length co31, .slice A0_2 l0_2.length c0_2] 25 (0, 0)) (by (with_reducible repeat (first | refine blk_drewN ?_ _ | refine blk_drew ?_ | refine blk_alloc ?_ _)); exact BK283.out) hg (Kd.N_ne HO300.out BK283.out (by decide)))
                have n4_ := Aside0.mk (blk_grown (g := gb284) (o := .cells #[.int .u32 a1_0, .slice A1_1 l1_1.length c1_1] 29 (0, 0)) (by (with_reducible repeat (first | refine blk_drewN ?_ _ | refine blk_drew ?_ | refine blk_alloc ?_ _)); exact BK284.out) hg (Kd.N_ne HO300.out BK284.out (by decide)))
                have n5_ := Aside0.mk (blk_grown (g := gb285) (o := .cells #[.int .i64 0, .slice none 0 0, .slice none 0 0] 25 (0, 0)) (by (with_reducible repeat (first | refine blk_drewN ?_ _ | refine blk_drew ?_ | refine blk_alloc ?_ _)); exact BK285.out) hg (Kd.N_ne HO300.out BK285.out (by decide)))
                have n6_ := Aside0.mk (Kd.N_afterv (ok := (fun k_ => ((P0_1_ k_ ∨ P0_2_ k_ ∨ P1_1_ k_) ∨ w.heap.size ≤ k_) ∧ some k_ ≠ (.slice Ao31 y295.length co31 : Value).ownBlock ∧ some k_ ≠ (v305 : Value).ownBlock ∧ k_ ≠ gb283 ∧ k_ ≠ gb284 ∧ k_ ≠ gb285)) (by (with_reducible repeat (first | apply Kd.N_alloc | apply Kd.N_drewN | apply Kd.N_drew)); exact Kd.N_mono HO294.out (fun _ hk => ⟨⟨hk.1.1.1, ⟨hk.1.1.2.1, ⟨hk.1.2, ⟨hk.1.1.2.2.1, ⟨hk.1.1.2.2.2.1, hk.1.1.2.2.2.2⟩⟩⟩⟩⟩, hk.2⟩)) hg hat)
                have n7_ := Aside0.mk (Kd.N_afterv (ok := (fun k_ => ((P0_1_ k_ ∨ P0_2_ k_ ∨ P1_1_ k_) ∨ w.heap.size ≤ k_) ∧ some k_ ≠ (v305 : Value).ownBlock ∧ k_ ≠ gb283 ∧ k_ ≠ gb284 ∧ k_ ≠ gb285)) (by (with_reducible repeat (first | apply Kd.N_alloc | apply Kd.N_drewN | apply Kd.N_drew)); exact Kd.N_mono HO297.out (fun _ hk => ⟨⟨hk.1.1.1, ⟨hk.1.2, ⟨hk.1.1.2.1, ⟨hk.1.1.2.2.1, hk.1.1.2.2.2⟩⟩⟩⟩, hk.2⟩)) hg hat)
                have n8_ := Aside0.mk (Kd.N_afterv (ok := (fun k_ => ((P0_1_ k_ ∨ P0_2_ k_ ∨ P1_1_ k_) ∨ w.heap.size ≤ k_) ∧ some k_ ≠ (.slice Ao30 y292.length co30 : Value).ownBlock ∧ some k_ ≠ (.slice Ao31 y295.length co31 : Value).ownBlock ∧ k_ ≠ gb283 ∧ k_ ≠ gb284 ∧ k_ ≠ gb285)) (by (with_reducible repeat (first | apply Kd.N_alloc | apply Kd.N_drewN | apply Kd.N_drew)); exact HO306.out) hg hat)
                have n9_ := Aside0.mk (hb)
                have n10_ := Aside0.mk (ho)
                clear HO0_1 HO0_2 HO1_1 BK283 BK284 BK285 HO294 HO297 HO306 HB HO300
                have HO0_1 := n0_
                have HO0_2 := n1_
                have HO1_1 := n2_
                have BK283 := n3_
                have BK284 := n4_
                have BK285 := n5_
                have HO294 := n6_
                have HO297 := n7_
                have HO306 := n8_
                have HB := n9_
                have HO303 := n10_
                clear n0_ n1_ n2_ n3_ n4_ n5_ n6_ n7_ n8_ n9_ n10_
                clear ho hb hg hat
                refine hK.out _ _ ⟨(blk_cell BK283.out 0).trans rfl, (blk_cell BK283.out 1).trans rfl, (blk_cell BK283.out 2).trans rfl, (blk_cell BK284.out 0).trans rfl, (blk_cell BK284.out 1).trans rfl⟩ (fun hHeld => ?_)
                clear hK K
                refine norm_ (a' := ?_) ?_ ?_
                rotate_left
                · show Act.put _ (some 24) _ = _
                  simp only [Act.put, List.setIfInBounds_toArray, List.set_cons_zero, List.set_cons_succ, i64_w, i32_w]
                  rfl
                exact norm_ (by simp only [putAll, Act.put, List.setIfInBounds_toArray, List.set_cons_zero, List.set_cons_succ]) (hCont (v299, v302, v305) _ ⟨hHeld, (by (with_reducible repeat (first | apply Kd.V_alloc | apply Kd.V_drewN | apply Kd.V_drew)); exact Kd.V_mono HO0_1.out (fun _ hk => ⟨hk.1.1, ⟨hk.1.2.1, ⟨hk.1.2.2.1, ⟨hk.2, ⟨hk.1.2.2.2.1, ⟨hk.1.2.2.2.2.1, ⟨hk.1.2.2.2.2.2.1, hk.1.2.2.2.2.2.2⟩⟩⟩⟩⟩⟩⟩)), (by (with_reducible repeat (first | apply Kd.V_alloc | apply Kd.V_drewN | apply Kd.V_drew)); exact Kd.V_mono HO0_2.out (fun _ hk => ⟨hk.1.1, ⟨hk.1.2.1, ⟨hk.1.2.2.1, ⟨hk.2, ⟨hk.1.2.2.2.1, ⟨hk.1.2.2.2.2.1, ⟨hk.1.2.2.2.2.2.1, hk.1.2.2.2.2.2.2⟩⟩⟩⟩⟩⟩⟩)), (by (with_reducible repeat (first | apply Kd.V_alloc | apply Kd.V_drewN | apply Kd.V_drew)); exact Kd.V_mono HO1_1.out (fun _ hk => ⟨hk.1.1, ⟨hk.1.2.1, ⟨hk.1.2.2.1, ⟨hk.2, ⟨hk.1.2.2.2.1, ⟨hk.1.2.2.2.2.1, ⟨hk.1.2.2.2.2.2.1, hk.1.2.2.2.2.2.2⟩⟩⟩⟩⟩⟩⟩)), (by (with_reducible repeat (first | apply Kd.N_alloc | apply Kd.N_drewN | apply Kd.N_drew)); exact Kd.N_mono HO294.out (fun _ hk => ⟨hk.1.1, ⟨hk.1.2.1, ⟨hk.2, ⟨hk.1.2.2.1, ⟨hk.1.2.2.2.1, ⟨hk.1.2.2.2.2.1, hk.1.2.2.2.2.2⟩⟩⟩⟩⟩⟩)), (by (with_reducible repeat (first | apply Kd.N_alloc | apply Kd.N_drewN | apply Kd.N_drew)); exact Kd.N_mono HO297.out (fun _ hk => ⟨hk.1.1, ⟨hk.2, ⟨hk.1.2.1, ⟨hk.1.2.2.1, ⟨hk.1.2.2.2.1, hk.1.2.2.2.2⟩⟩⟩⟩⟩)), (by (with_reducible repeat (first | apply Kd.N_alloc | apply Kd.N_drewN | apply Kd.N_drew)); exact HO303.out), (by (with_reducible repeat (first | apply Kd.N_alloc | apply Kd.N_drewN | apply Kd.N_drew)); exact Kd.N_mono HO306.out (fun _ hk => ⟨hk.1.1, ⟨hk.1.2.1, ⟨hk.1.2.2.1, ⟨hk.2, ⟨hk.1.2.2.2.1, ⟨hk.1.2.2.2.2.1, hk.1.2.2.2.2.2⟩⟩⟩⟩⟩⟩)), (by (with_reducible repeat (first | refine blk_drewN ?_ _ | refine blk_drew ?_ | refine blk_alloc ?_ _)); exact BK283.out), (by (with_reducible repeat (first | refine blk_drewN ?_ _ | refine blk_drew ?_ | refine blk_alloc ?_ _)); exact BK284.out), (by (with_reducible repeat (first | refine blk_drewN ?_ _ | refine blk_drew ?_ | refine blk_alloc ?_ _)); exact BK285.out), (by repeat (first | (with_reducible first | exact HB.out | apply below_alloc | apply pw_below_drewN | apply below_drew1 | refine below_set ?_ GE283.out | refine below_set ?_ GE284.out | refine below_set ?_ GE285.out) | exact HB.out))⟩)
            rintro ⟨v299, v302, v305⟩ w40 ⟨hS_, h0_, h1_, h2_, h3_, h4_, h5_, h6_, h7_, h8_, h9_, h10_⟩
            have n3_ : Aside0 (Kd.N k29 29 w40 w.heap.size (fun k_ => ((P0_1_ k_ ∨ P0_2_ k_ ∨ P1_1_ k_) ∨ w.heap.size ≤ k_) ∧ some k_ ≠ (.slice Ao31 y295.length co31 : Value).ownBlock ∧ some k_ ≠ (v302 : Value).ownBlock ∧ some k_ ≠ (v305 : Value).ownBlock ∧ k_ ≠ gb283 ∧ k_ ≠ gb284 ∧ k_ ≠ gb285) (.slice Ao30 y292.length co30) y292) := ⟨h3_⟩
            have n4_ : Aside0 (Kd.N k29 29 w40 w.heap.size (fun k_ => ((P0_1_ k_ ∨ P0_2_ k_ ∨ P1_1_ k_) ∨ w.heap.size ≤ k_) ∧ some k_ ≠ (v302 : Value).ownBlock ∧ some k_ ≠ (v305 : Value).ownBlock ∧ k_ ≠ gb283 ∧ k_ ≠ gb284 ∧ k_ ≠ gb285) (.slice Ao31 y295.length co31) y295) := ⟨h4_⟩
            have n5_ : Aside0 (Kd.N (Kd.slice 26 (Kd.int .u32)) 27 w40 w.heap.size (fun k_ => ((P0_1_ k_ ∨ P0_2_ k_ ∨ P1_1_ k_) ∨ w.heap.size ≤ k_) ∧ some k_ ≠ (.slice Ao30 y292.length co30 : Value).ownBlock ∧ some k_ ≠ (.slice Ao31 y295.length co31 : Value).ownBlock ∧ some k_ ≠ (v305 : Value).ownBlock ∧ k_ ≠ gb283 ∧ k_ ≠ gb284 ∧ k_ ≠ gb285) v302 y301) := ⟨h5_⟩
            have n6_ : Aside0 (Kd.N (Kd.slice 26 (Kd.int .u32)) 27 w40 w.heap.size (fun k_ => ((P0_1_ k_ ∨ P0_2_ k_ ∨ P1_1_ k_) ∨ w.heap.size ≤ k_) ∧ some k_ ≠ (.slice Ao30 y292.length co30 : Value).ownBlock ∧ some k_ ≠ (.slice Ao31 y295.length co31 : Value).ownBlock ∧ some k_ ≠ (v302 : Value).ownBlock ∧ k_ ≠ gb283 ∧ k_ ≠ gb284 ∧ k_ ≠ gb285) v305 y304) := ⟨h6_⟩
            have n7_ : Aside0 (w40.heap[gb283]? = some (.cells #[.int .i64 a0_0, .slice Ao31 y295.length co31, .slice A0_2 l0_2.length c0_2] 25 (0, 0))) := ⟨h7_⟩
            have n8_ : Aside0 (w40.heap[gb284]? = some (.cells #[.int .u32 a1_0, .slice A1_1 l1_1.length c1_1] 29 (0, 0))) := ⟨h8_⟩
            have n9_ : Aside0 (w40.heap[gb285]? = some (.cells #[.int .i64 0, .slice none 0 0, .slice none 0 0] 25 (0, 0))) := ⟨h9_⟩
            have n10_ : Aside0 (Below w.heap.size w w40) := ⟨h10_⟩
            clear HO0_1 HO0_2 HO1_1 HO294 HO297 BK283 BK284 BK285 HB h0_ h1_ h2_ h3_ h4_ h5_ h6_ h7_ h8_ h9_ h10_
            have HO294 := n3_
            have HO297 := n4_
            have HO303 := n5_
            have HO306 := n6_
            have BK283 := n7_
            have BK284 := n8_
            have BK285 := n9_
            have HB := n10_
            clear n3_ n4_ n5_ n6_ n7_ n8_ n9_ n10_
            have hHeld : w40.cell? ⟨gb283, 0, none⟩ = some (.int .i64 a0_0) ∧ w40.cell? ⟨gb283, 1, none⟩ = some (.slice Ao31 y295.length co31) ∧ w40.cell? ⟨gb283, 2, none⟩ = some (.slice A0_2 l0_2.length c0_2) ∧ w40.cell? ⟨gb284, 0, none⟩ = some (.int .u32 a1_0) ∧ w40.cell? ⟨gb284, 1, none⟩ = some (.slice A1_1 l1_1.length c1_1) := hS_
            obtain ⟨Ao42, co42, eo42⟩ := Kd.N_slice HO306.out
            (first | subst eo42 | (injection eo42 with f1_ f2_ f3_; have f4_ := f1_.symm; have f5_ := f3_.symm; clear f1_ f2_ f3_; subst f4_; subst f5_))
            refine norm_ (a' := ?_) ?_ ?_
            rotate_left
            · simp only [putAll, Act.put, List.setIfInBounds_toArray, List.set_cons_zero, List.set_cons_succ]
              rfl
            refine one_ (i := 7) (N := some 28) #[true, true, true, true, true, true, true, true, false, false] rfl rfl (one_of HT_.out (by kernel_rfl)) (by decide) (fun K hK => ?_)
            refine Kd.N_append_rows_step (Kd.slice 26 (Kd.int .u32)) (w0 := w) w.heap.size (by rfl) (.tmp 24) (.tmp 27) 23 27 (.slice none 0 0) 24 rfl Try.underlying23 info27 rfl (by decide) (by omega) v302 y301 y304 _ _ _ (fun k_ => ((P0_1_ k_ ∨ P0_2_ k_ ∨ P1_1_ k_) ∨ w.heap.size ≤ k_) ∧ some k_ ≠ (.slice Ao30 y292.length co30 : Value).ownBlock ∧ some k_ ≠ (.slice Ao31 y295.length co31 : Value).ownBlock ∧ k_ ≠ gb283 ∧ k_ ≠ gb284 ∧ k_ ≠ gb285) (fun k_ => ((fun k_ => ((P0_1_ k_ ∨ P0_2_ k_ ∨ P1_1_ k_) ∨ w.heap.size ≤ k_) ∧ some k_ ≠ (.slice Ao30 y292.length co30 : Value).ownBlock ∧ some k_ ≠ (.slice Ao31 y295.length co31 : Value).ownBlock ∧ k_ ≠ gb283 ∧ k_ ≠ gb284 ∧ k_ ≠ gb285)) k_ ∧ some k_ ≠ (v302 : Value).ownBlock) rfl rfl ?aO ?aR (fun _ hk => hk) ?aF ?aB ?aS ?aL ?_
            (case aR => exact (by skip; exact Kd.N_F (Kd.N_mono (ok' := (fun k_ => ((fun k_ => ((P0_1_ k_ ∨ P0_2_ k_ ∨ P1_1_ k_) ∨ w.heap.size ≤ k_) ∧ some k_ ≠ (.slice Ao30 y292.length co30 : Value).ownBlock ∧ some k_ ≠ (.slice Ao31 y295.length co31 : Value).ownBlock ∧ k_ ≠ gb283 ∧ k_ ≠ gb284 ∧ k_ ≠ gb285)) k_ ∧ some k_ ≠ (v302 : Value).ownBlock)) (HO306.out) (fun k_ hk => ⟨⟨hk.1, ⟨hk.2.1, ⟨hk.2.2.1, ⟨hk.2.2.2.2.1, ⟨hk.2.2.2.2.2.1, hk.2.2.2.2.2.2⟩⟩⟩⟩⟩, hk.2.2.2.1⟩))))
            (case aB => exact (by repeat (first | (with_reducible first | exact HB.out | apply below_alloc | apply pw_below_drewN | apply below_drew1 | refine below_set ?_ GE283.out | refine below_set ?_ GE284.out | refine below_set ?_ GE285.out) | exact HB.out)))
            (case aF => exact (fun k_ hk => ⟨(.inr (Nat.le_trans (below_size (by repeat (first | (with_reducible first | exact HB.out | apply below_alloc | apply pw_below_drewN | apply below_drew1 | refine below_set ?_ GE283.out | refine below_set ?_ GE284.out | refine below_set ?_ GE285.out) | exact HB.out))) hk)), Kd.fresh' (Kd.N_lt (by (with_reducible repeat (first | apply Kd.N_alloc | apply Kd.N_drewN | apply Kd.N_drew)); exact HO294.out)) k_ hk, Kd.fresh' (Kd.N_lt (by (with_reducible repeat (first | apply Kd.N_alloc | apply Kd.N_drewN | apply Kd.N_drew)); exact HO297.out)) k_ hk, fb_ BK283.out k_ hk, fb_ BK284.out k_ hk, fb_ BK285.out k_ hk⟩))
            (case aO => exact (by (with_reducible repeat (first | apply Kd.N_alloc | apply Kd.N_drewN | apply Kd.N_drew)); exact Kd.N_mono HO303.out (fun _ hk => ⟨hk.1, ⟨hk.2.1, ⟨hk.2.2.1, ⟨hk.2.2.2.2.1, ⟨hk.2.2.2.2.2.1, hk.2.2.2.2.2.2⟩⟩⟩⟩⟩)))
            (case aS => exact (below_size (by repeat (first | (with_reducible first | exact HB.out | apply below_alloc | apply pw_below_drewN | apply below_drew1 | refine below_set ?_ GE283.out | refine below_set ?_ GE284.out | refine below_set ?_ GE285.out) | exact HB.out))))
            (case aL => have := LMc15.out; omega)
            intro v308 w41 ho hb hg hat
            rw [← Ny307.out] at ho
            have n3_ := Aside0.mk (blk_grown (g := gb283) (o := .cells #[.int .i64 a0_0, .slice Ao31 y295.length co31, .slice A0_2 l0_2.length c0_2] 25 (0, 0)) (by (with_reducible repeat (first | refine blk_drewN ?_ _ | refine blk_drew ?_ | refine blk_alloc ?_ _)); exact BK283.out) hg (Kd.N_ne HO303.out BK283.out (by decide)))
            have n4_ := Aside0.mk (blk_grown (g := gb284) (o := .cells #[.int .u32 a1_0, .slice A1_1 l1_1.length c1_1] 29 (0, 0)) (by (with_reducible repeat (first | refine blk_drewN ?_ _ | refine blk_drew ?_ | refine blk_alloc ?_ _)); exact BK284.out) hg (Kd.N_ne HO303.out BK284.out (by decide)))
            have n5_ := Aside0.mk (blk_grown (g := gb285) (o := .cells #[.int .i64 0, .slice none 0 0, .slice none 0 0] 25 (0, 0)) (by (with_reducible repeat (first | refine blk_drewN ?_ _ | refine blk_drew ?_ | refine blk_alloc ?_ _)); exact BK285.out) hg (Kd.N_ne HO303.out BK285.out (by decide)))
            have n7_ := Aside0.mk (Kd.N_afterv (ok := (fun k_ => ((P0_1_ k_ ∨ P0_2_ k_ ∨ P1_1_ k_) ∨ w.heap.size ≤ k_) ∧ some k_ ≠ (.slice Ao42 y304.length co42 : Value).ownBlock ∧ k_ ≠ gb283 ∧ k_ ≠ gb284 ∧ k_ ≠ gb285)) (by (with_reducible repeat (first | apply Kd.N_alloc | apply Kd.N_drewN | apply Kd.N_drew)); exact Kd.N_mono HO297.out (fun _ hk => ⟨⟨hk.1, ⟨hk.2.2.1, ⟨hk.2.2.2.1, ⟨hk.2.2.2.2.1, hk.2.2.2.2.2⟩⟩⟩⟩, hk.2.1⟩)) hg hat)
            have n9_ := Aside0.mk (hb)
            have n10_ := Aside0.mk (ho)
            clear BK283 BK284 BK285 HO294 HO297 HO306 HB HO303
            have BK283 := n3_
            have BK284 := n4_
            have BK285 := n5_
            have HO297 := n7_
            have HB := n9_
            have HO309 := n10_
            clear n3_ n4_ n5_ n7_ n9_ n10_
            clear ho hb hg hat
            obtain ⟨Ao43, co43, eo43⟩ := Kd.N_slice HO309.out
            (first | subst eo43 | (injection eo43 with f1_ f2_ f3_; have f4_ := f1_.symm; have f5_ := f3_.symm; clear f1_ f2_ f3_; subst f4_; subst f5_))
            refine hK.out _ _ ⟨(blk_cell BK283.out 0).trans rfl, (blk_cell BK283.out 1).trans rfl, (blk_cell BK283.out 2).trans rfl, (blk_cell BK284.out 0).trans rfl, (blk_cell BK284.out 1).trans rfl⟩ (fun hHeld => ?_)
            clear hK K
            refine norm_ (a' := ?_) ?_ ?_
            rotate_left
            · show Act.put _ (some 28) _ = _
              simp only [Act.put, List.setIfInBounds_toArray, List.set_cons_zero, List.set_cons_succ, i64_w, i32_w]
              rfl
            refine pure_ (i := 8) (N := some 29) (v := ?_) (a' := ?_) #[true, true, true, true, true, true, true, true, true, false] rfl rfl (any_of HT_.out (by kernel_rfl)) (fun _ _ _ h => h) (Or.inl ⟨by rfl, ?_⟩) ?_ ?_
            rotate_left
            · intro w'
              go_simp
              with_reducible rfl
            rotate_left
            · simp only [Act.put, List.setIfInBounds_toArray, List.set_cons_zero, List.set_cons_succ, i64_w, i32_w]
              rfl
            refine last_ (i := 9) (N := none) #[true, true, true, true, true, true, true, true, true, true] rfl rfl (one_of HT_.out (by kernel_rfl)) (by decide) (fun K hK => ?_)
            have hs44 : w41.cell? ⟨gb283, 2, none⟩ = some (.slice A0_2 l0_2.length c0_2) := (blk_cell BK283.out 2).trans rfl
            have hfs44 := blk_frozen BK283.out 2
            have hns44_1 := NB284_283.out
            have hns44_2 := NB285_283.out
            have hms44_1 := NB283_284.out
            have hms44_2 := NB283_285.out
            refine skip_ (w1 := ?_) (by rfl) rfl ?_ ?_
            rotate_left
            · go_simp
              rfl
            refine hK.out _ _ ?_
            clear hK K
            refine done_ (done_of HT_.out (by kernel_rfl)) ?_
            have ⟨hcz45_0, hcz45_1, hcz45_2⟩ := cz3_ BK283.out
            have ⟨hfz45_0, hfz45_1, hfz45_2⟩ := fz3_ BK283.out
            have hnb46 := NB285_284.out
            have hnc46 := NB284_285.out
            have ⟨hcz47_0, hcz47_1, hcz47_2⟩ := cz3_ BK285.out
            have ⟨hfz47_0, hfz47_1, hfz47_2⟩ := fz3_ BK285.out
            try go_wp2
            refine bodyPost_ret (results_ct rfl _ _ gb285 25 #[.int .i64 a0_0, .slice Ao31 y295.length co31, .slice Ao43 y307.length co43] (0, 0) _ rfl (by (with_reducible repeat (first | refine blk_drewN ?_ _ | refine blk_drew ?_ | refine blk_alloc ?_ _)); refine blk_put (cs := #[.int .i64 a0_0, .slice Ao31 y295.length co31, .slice none 0 0]) ?_ 2 _ rfl; (with_reducible repeat (first | refine blk_drewN ?_ _ | refine blk_drew ?_ | refine blk_alloc ?_ _)); refine blk_put (cs := #[.int .i64 a0_0, .slice none 0 0, .slice none 0 0]) ?_ 1 _ rfl; (with_reducible repeat (first | refine blk_drewN ?_ _ | refine blk_drew ?_ | refine blk_alloc ?_ _)); refine blk_put (cs := #[.int .i64 0, .slice none 0 0, .slice none 0 0]) ?_ 0 _ rfl; (with_reducible repeat (first | refine blk_drewN ?_ _ | refine blk_drew ?_ | refine blk_alloc ?_ _)); refine blk_far ?_ NB285_283.out _; (with_reducible repeat (first | refine blk_drewN ?_ _ | refine blk_drew ?_ | refine blk_alloc ?_ _)); exact BK285.out) Try.underlying25 rfl (by kernel_rfl)) rfl ?_
            exact ⟨_, _, by first | rfl | (simp [errW_none, errW_some] <;> rfl) | (simp [*, errW_none, errW_some] <;> rfl), Kd.N_V (by (with_reducible repeat (first | apply Kd.N_alloc | apply Kd.N_drewN | apply Kd.N_drew)); exact Kd.N_mono (n3_ (g := gb285) (Kd.N_far (p := ⟨gb283, 2, none⟩) (Kd.N_mono (Kd.N_mono HO297.out (fun k_ hk => (⟨hk, hk.1.2.2.1⟩ : _ ∧ k_ ≠ gb283))) (fun k_ hk => (⟨hk, hk.1.1.2.2.2.2⟩ : _ ∧ k_ ≠ gb285))) (fun _ hk => hk.1.2) (.slice Ao43 y307.length co43))) (fun _ hk => hk.1.1.1.1)), Kd.N_V (by (with_reducible repeat (first | apply Kd.N_alloc | apply Kd.N_drewN | apply Kd.N_drew)); exact Kd.N_mono (n3_ (g := gb285) (Kd.N_far (p := ⟨gb283, 2, none⟩) (Kd.N_mono (Kd.N_mono HO309.out (fun k_ hk => (⟨hk, hk.2.2.2.1⟩ : _ ∧ k_ ≠ gb283))) (fun k_ hk => (⟨hk, hk.1.2.2.2.2.2⟩ : _ ∧ k_ ≠ gb285))) (fun _ hk => hk.1.2) (.slice Ao43 y307.length co43))) (fun _ hk => hk.1.1.1)), by repeat (first | (with_reducible first | exact HB.out | apply below_alloc | apply pw_below_drewN | apply below_drew1 | refine below_set ?_ GE283.out | refine below_set ?_ GE284.out | refine below_set ?_ GE285.out) | exact HB.out)⟩
          · rw [if_neg c15] at H
            exact absurd H (by simp)
        · rw [if_neg c14] at H
          exact absurd H (by simp)
      · rw [if_neg c13] at H
        exact absurd H (by simp)
    · rw [if_neg c12] at H
      exact absurd H (by simp)

end Go.Proofs.Ytlbfdmoocgjiaaa.PNetKeeps
