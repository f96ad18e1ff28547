-- Written for this claim by wip/tools/myprint.py (print.py's forms; proofs of the faked functions by hand).
import Derived.Test.YtifdlpnpbicahaaPBoxKeepsx1
import Derived.Test.YtifdlpnpbicahaaPBoxKeepsx2
import Derived.Test.YtifdlpnpbicahaaPBoxKeepsx3
import Derived.Test.YtifdlpnpbicahaaPBoxKeepsx0
namespace Go.Proofs.Ytifdlpnpbicahaa.PBoxKeeps
open Go.RowKit Go.Proofs.YtifdlpnpbicahaaW.PrintWords Go.Proofs.YtifdlpnpbicahaaW.PrintLast Go.Proofs.YtifdlpnpbicahaaW.PrintMore
attribute [local go_sem] max2_int min2_int max_two min_two max_three min_three max_four min_four   -- for this text's walks alone
set_option linter.unusedVariables false
set_option linter.unusedSimpArgs false

/-! ### chamberlainref07_There: function 20 -/
def chamberlainref07_There.l0 : Nat → Int → Int → Int → List (S43) → Option (Bool)
  | 0, _, _, _, _ => none
  | k + 1, x1, x5, x219000, x219001 => if x5 < (x219001.length : Int) then (if 0 ≤ x5 then (if ((rd_T43 x219001 x5).f0) = x1 then (some true) else (chamberlainref07_There.l0 k x1 (wrap64 (x5 + 1)) x219000 x219001)) else (none)) else (some false)
def chamberlainref07_There.f (k : Nat) (a0_0 : Int) (l0_1 : List (S43)) (a1 : Int) : Option (Bool) := chamberlainref07_There.l0 k a1 0 a0_0 l0_1
theorem chamberlainref07_There.mono_l : ∀ k, (∀ y0 y1 y2 y3, LeO (chamberlainref07_There.l0 k y0 y1 y2 y3) (chamberlainref07_There.l0 (k + 1) y0 y1 y2 y3))
  | 0 => fun _ _ _ _ r h => by simp [chamberlainref07_There.l0] at h
  | k + 1 => by
    have ih0 := chamberlainref07_There.mono_l k
    · intro y0 y1 y2 y3
      unfold chamberlainref07_There.l0
      repeat' first
      | (with_reducible exact ih0 _ _ _ _)
      | (with_reducible exact LeO.refl _)
      | (with_reducible exact LeO.none _)
      | (with_reducible refine LeO.ite ?_ ?_)
      | (with_reducible refine LeO.bind ?_ (fun _ => ?_))
      | exact ih0 _ _ _ _
      | exact LeO.none _
      | refine LeO.ite ?_ ?_
      | refine LeO.bind ?_ (fun _ => ?_)
theorem chamberlainref07_There.mono : ∀ a0 a1 a2 k, LeO (chamberlainref07_There.f k a0 a1 a2) (chamberlainref07_There.f (k + 1) a0 a1 a2) := by
  intro a0 a1 a2 k
  have ih0 := chamberlainref07_There.mono_l k
  unfold chamberlainref07_There.f
  repeat' first
      | (with_reducible exact ih0 _ _ _ _)
      | (with_reducible exact LeO.refl _)
      | (with_reducible exact LeO.none _)
      | (with_reducible refine LeO.ite ?_ ?_)
      | (with_reducible refine LeO.bind ?_ (fun _ => ?_))
      | exact ih0 _ _ _ _
      | exact LeO.none _
      | refine LeO.ite ?_ ?_
      | refine LeO.bind ?_ (fun _ => ?_)
set_option maxHeartbeats 8000000 in
set_option maxRecDepth 100000 in
theorem chamberlainref07_There.calls (k : Nat) (a0_0 : Int) (A0_1 : Option Addr) (c0_1 : Nat) (l0_1 : List (S43)) (a1 : Int) (r : Bool) (w : World) (hr0_1 : Kd.C k43 w A0_1 l0_1.length l0_1) (hc0_1 : l0_1.length ≤ c0_1) (h : chamberlainref07_There.f k a0_0 l0_1 a1 = some r) :
    Calls Try.prog 20 #[.agg #[.int .i64 a0_0, .slice A0_1 l0_1.length c0_1], .int .u32 a1] w fun e w' => e = .returned (.bool r) ∧ Below w.heap.size w w' := by
  have hu24 := Try.underlying24
  have HR0_1 := Aside0.mk hr0_1
  have HC0_1 := Aside0.mk hc0_1
  clear hr0_1 hc0_1
  have HB := Aside0.mk (Below.refl w.heap.size w)
  have H : (chamberlainref07_There.l0 k a1 0 a0_0 l0_1) = some r := h
  clear h
  have H' := Aside0.mk H
  clear H
  go_enter Try.func20, Try.ntmps20
  go_wp2_with (first | ((with_reducible refine gate_dst (N := 2) rfl ?_); refine box_event ?hg (N := 2) ?hd (cs := #[.int .i64 a0_0, .slice A0_1 l0_1.length c0_1]) (t := 24) ?hr ?_; (case hd => rfl); (case hg => rfl); (case hr => first | (go_simp; done) | (go_simp; rfl)); intro gb218 hg w3 hbox hb; have n0_ := Aside0.mk (below_step (by repeat (first | (with_reducible first | exact HB.out | apply below_alloc | apply pw_below_drewN | apply below_drew1) | exact HB.out)) hb); have n1_ := Aside0.mk (hbox); have n2_ := Aside0.mk ((by rw [hg]; exact (below_size (by repeat (first | (with_reducible first | exact HB.out | apply below_alloc | apply pw_below_drewN | apply below_drew1) | exact HB.out))) : w.heap.size ≤ gb218)); have n3_ := Aside0.mk ((by rw [hg]; exact (below_size (by repeat (first | (with_reducible first | exact HB.out | apply below_alloc | apply pw_below_drewN | apply below_drew1) | exact HB.out))) : w.heap.size ≤ gb218)); clear HB; have HB := n0_; have BK218 := n1_; have GW218 := n2_; have GE218 := n3_; clear n0_ n1_ n2_ n3_; clear hb hbox hg))
  go_loopg [5] k (fun kq v5 w' => ∃ (x5_1 : Int), v5 = .int .i64 x5_1 ∧ Aside0 (chamberlainref07_There.l0 kq a1 x5_1 a0_0 l0_1 = some r) ∧ Aside0 (kq ≤ k) ∧ Aside0 (w'.heap[gb218]? = some (.cells #[.int .i64 a0_0, (.slice A0_1 l0_1.length c0_1)] 24 (0, 0))) ∧ Aside0 (Below w.heap.size w w'))
  case atStart => exact ⟨(0), (by first | rfl | (simp; done) | (simp [*]; done)), H', ⟨Nat.le_refl _⟩, ⟨by (with_reducible repeat (first | refine blk_drewN ?_ _ | refine blk_drew ?_ | refine blk_alloc ?_ _)); exact BK218.out⟩, ⟨by repeat (first | (with_reducible first | exact HB.out | apply below_alloc | apply pw_below_drewN | apply below_drew1 | refine below_set ?_ GE218.out) | exact HB.out)⟩⟩
  case round =>
    clear H'
    try clear c2
    try clear p2
    obtain ⟨x5_1, rfl, HA, HK1, BK218, HB⟩ := hrel
    cases gk with
    | zero => exact absurd HA.out (by simp [chamberlainref07_There.l0])
    | succ k1 =>
      have H := HA.out
      clear HA
      simp only [chamberlainref07_There.l0] at H
      by_cases c4 : x5_1 < (l0_1.length : Int)
      · rw [if_pos c4] at H
        have c4b0 : decide (x5_1 < (l0_1.length : Int)) = true := decide_eq_true c4
        clear c4
        by_cases c5 : 0 ≤ x5_1
        · rw [if_pos c5] at H
          have c5b0 : decide (0 ≤ x5_1) = true := decide_eq_true c5
          clear c5
          by_cases c6 : ((rd_T43 l0_1 x5_1).f0) = a1
          · rw [if_pos c6] at H
            have c6b0 : (((rd_T43 l0_1 x5_1).f0) == a1) = true := beq_iff_eq.mpr c6
            have c6b1 : (((rd_T43 l0_1 x5_1).f0) != a1) = false := bne_eq_false_iff_eq.mpr c6
            clear c6
            obtain rfl := Option.some.inj H
            have hcz7_0 : wr.cell? ⟨gb218, 0, none⟩ = some (.int .i64 a0_0) := (blk_cell BK218.out 0).trans rfl
            have hcz7_1 : wr.cell? ⟨gb218, 1, none⟩ = some (.slice A0_1 l0_1.length c0_1) := (blk_cell BK218.out 1).trans rfl
            have hfz7_0 := blk_frozen BK218.out 0
            have hfz7_1 := blk_frozen BK218.out 1
            have p219 : 0 ≤ (x5_1 : Int) := of_decide_eq_true (by first | (with_reducible assumption) | assumption)
            have q219 : x5_1 < (l0_1.length : Int) := of_decide_eq_true (by first | (with_reducible assumption) | assumption)
            obtain ⟨ad219, A219_3, c219_3, e219, hx219_0, hx219_1, hx219_2, hx219_3, hl219_3, hi219_3⟩ := at_T43 HR0_1.out x5_1 p219 q219
            cases e219
            replace hx219_0 := (HB.out.cell (World.block_lt_of_cell? w _ hx219_0)).trans hx219_0
            replace hx219_1 := (HB.out.cell (World.block_lt_of_cell? w _ hx219_1)).trans hx219_1
            replace hx219_2 := (HB.out.cell (World.block_lt_of_cell? w _ hx219_2)).trans hx219_2
            replace hx219_3 := (HB.out.cell (World.block_lt_of_cell? w _ hx219_3)).trans hx219_3
            have HR219_3 := Aside0.mk hi219_3
            have HC219_3 := Aside0.mk hl219_3
            clear hi219_3 hl219_3
            replace p219 := eq_true p219
            replace q219 := eq_true q219
            go_wp2
            go_ret
            exact ⟨by first | rfl | (simp [errW_none, errW_some] <;> rfl) | (simp [*, errW_none, errW_some] <;> rfl), by repeat (first | (with_reducible first | exact HB.out | apply below_alloc | apply pw_below_drewN | apply below_drew1 | refine below_set ?_ GE218.out) | exact HB.out)⟩
          · rw [if_neg c6] at H
            have c6b0 : (((rd_T43 l0_1 x5_1).f0) == a1) = false := beq_eq_false_iff_ne.mpr c6
            have c6b1 : (((rd_T43 l0_1 x5_1).f0) != a1) = true := bne_iff_ne.mpr c6
            have H' := Aside0.mk H
            clear H
            have hcz8_0 : wr.cell? ⟨gb218, 0, none⟩ = some (.int .i64 a0_0) := (blk_cell BK218.out 0).trans rfl
            have hcz8_1 : wr.cell? ⟨gb218, 1, none⟩ = some (.slice A0_1 l0_1.length c0_1) := (blk_cell BK218.out 1).trans rfl
            have hfz8_0 := blk_frozen BK218.out 0
            have hfz8_1 := blk_frozen BK218.out 1
            have p219 : 0 ≤ (x5_1 : Int) := of_decide_eq_true (by first | (with_reducible assumption) | assumption)
            have q219 : x5_1 < (l0_1.length : Int) := of_decide_eq_true (by first | (with_reducible assumption) | assumption)
            obtain ⟨ad219, A219_3, c219_3, e219, hx219_0, hx219_1, hx219_2, hx219_3, hl219_3, hi219_3⟩ := at_T43 HR0_1.out x5_1 p219 q219
            cases e219
            replace hx219_0 := (HB.out.cell (World.block_lt_of_cell? w _ hx219_0)).trans hx219_0
            replace hx219_1 := (HB.out.cell (World.block_lt_of_cell? w _ hx219_1)).trans hx219_1
            replace hx219_2 := (HB.out.cell (World.block_lt_of_cell? w _ hx219_2)).trans hx219_2
            replace hx219_3 := (HB.out.cell (World.block_lt_of_cell? w _ hx219_3)).trans hx219_3
            have HR219_3 := Aside0.mk hi219_3
            have HC219_3 := Aside0.mk hl219_3
            clear hi219_3 hl219_3
            replace p219 := eq_true p219
            replace q219 := eq_true q219
            go_wp2
            go_roundg k1
            case measure => have := HK1.out; omega
            case rel => exact ⟨(wrap64 (x5_1 + 1)), (by first | rfl | (simp; done) | (simp [*]; done)), H', ⟨by have := HK1.out; omega⟩, ⟨by (with_reducible repeat (first | refine blk_drewN ?_ _ | refine blk_drew ?_ | refine blk_alloc ?_ _)); exact BK218.out⟩, ⟨by repeat (first | (with_reducible first | exact HB.out | apply below_alloc | apply pw_below_drewN | apply below_drew1 | refine below_set ?_ GE218.out) | exact HB.out)⟩⟩
        · rw [if_neg c5] at H
          exact absurd H (by simp)
      · rw [if_neg c4] at H
        have c4b0 : decide (x5_1 < (l0_1.length : Int)) = false := decide_eq_false c4
        clear c4
        obtain rfl := Option.some.inj H
        have hcz9_0 : wr.cell? ⟨gb218, 0, none⟩ = some (.int .i64 a0_0) := (blk_cell BK218.out 0).trans rfl
        have hcz9_1 : wr.cell? ⟨gb218, 1, none⟩ = some (.slice A0_1 l0_1.length c0_1) := (blk_cell BK218.out 1).trans rfl
        have hfz9_0 := blk_frozen BK218.out 0
        have hfz9_1 := blk_frozen BK218.out 1
        go_wp2
        go_ret
        exact ⟨by first | rfl | (simp [errW_none, errW_some] <;> rfl) | (simp [*, errW_none, errW_some] <;> rfl), by repeat (first | (with_reducible first | exact HB.out | apply below_alloc | apply pw_below_drewN | apply below_drew1 | refine below_set ?_ GE218.out) | exact HB.out)⟩

/-! ### chamberlainref07_Seal: function 13 -/
def chamberlainref07_Seal.f (k : Nat) (a0_0 : Int) (l0_1 : List (S43)) (a1 : Int) (a2 : Int) (a3 : Int) (l4 : List Int) : Option (Int × (List (S43)) × Int) := if (l4.length : Int) > 64 then (some (a0_0, l0_1, 3)) else ((chamberlainref07_There.f k a0_0 l0_1 a1).bind fun t222 => (if t222 = true then (some (a0_0, l0_1, 8)) else (if (l0_1.length : Int) ≥ a0_0 then (some (a0_0, l0_1, 10)) else ((some (([] : List Int) : List Int)).bind fun y223 => (if y223.length + l4.length < 35184372088832 then ((some (([] : List (S43)) : List (S43))).bind fun y230 => (if y230.length + l0_1.length < 3518437208883 then ((some (y230 ++ l0_1 : List (S43))).bind fun y233 => ((some (([(⟨a1, a2, a3, (y223 ++ l4)⟩ : S43)] : List (S43)) : List (S43))).bind fun y236 => (if y233.length + y236.length < 3518437208883 then (some (a0_0, (y233 ++ y236), 0)) else (none)))) else (none))) else (none))))))
theorem chamberlainref07_Seal.mono : ∀ a0 a1 a2 a3 a4 a5 k, LeO (chamberlainref07_Seal.f k a0 a1 a2 a3 a4 a5) (chamberlainref07_Seal.f (k + 1) a0 a1 a2 a3 a4 a5) := by
  intro a0 a1 a2 a3 a4 a5 k
  unfold chamberlainref07_Seal.f
  repeat' first
      | (with_reducible exact chamberlainref07_There.mono _ _ _ _)
      | (with_reducible exact LeO.refl _)
      | (with_reducible exact LeO.none _)
      | (with_reducible refine LeO.ite ?_ ?_)
      | (with_reducible refine LeO.bind ?_ (fun _ => ?_))
      | exact chamberlainref07_There.mono _ _ _ _
      | exact LeO.none _
      | refine LeO.ite ?_ ?_
      | refine LeO.bind ?_ (fun _ => ?_)
def chamberlainref07_Seal.T8 : Bool × List (List Nat × List Nat) := (true, [([], []), ([], []), ([1], [1]), ([0, 2], [0, 2]), ([], []), ([4], [4]), ([3, 5, 3], [3, 5]), ([0, 1, 2, 3, 4, 5, 6], []), ([7, 6, 6, 0, 1, 2, 3, 4, 5, 6], [6, 7])])
def chamberlainref07_Seal.B8 : List Nat := [0, 0, 2, 7, 0, 16, 63, 127, 255]
theorem chamberlainref07_Seal.tab8 : rtab .any (opsOf Try.f13 8) = chamberlainref07_Seal.T8 := by kernel_rfl
theorem chamberlainref07_Seal.bits8 : waitsOk chamberlainref07_Seal.T8.2 chamberlainref07_Seal.B8 = true := by kernel_rfl
set_option maxHeartbeats 8000000 in
set_option maxRecDepth 100000 in
theorem chamberlainref07_Seal.calls (k : Nat) (a0_0 : Int) (P0_1_ : Nat → Prop) (A0_1 : Option Addr) (c0_1 : Nat) (l0_1 : List (S43)) (a1 : Int) (a2 : Int) (a3 : Int) (A4 : Option Addr) (c4 : Nat) (l4 : List Int) (r1 : Int) (r2 : List (S43)) (r3 : Int) (w : World) (hs0_1 : Kd.V k43 43 w w.heap.size (fun k_ => P0_1_ k_) (.slice A0_1 l0_1.length c0_1) l0_1) (hr4 : Kd.C (Kd.int .u32) w A4 l4.length l4) (hc4 : l4.length ≤ c4) (h : chamberlainref07_Seal.f k a0_0 l0_1 a1 a2 a3 l4 = some (r1, r2, r3)) :
    Calls Try.prog 13 #[.agg #[.int .i64 a0_0, .slice A0_1 l0_1.length c0_1], .int .u32 a1, .int .u32 a2, .int .u32 a3, .slice A4 l4.length c4] w fun e w' => ∃ v1_ : Value, e = .returned (.tuple #[.agg #[.int .i64 r1, v1_], .int .i64 r3]) ∧ Kd.V k43 43 w' w.heap.size (fun k_ => (P0_1_ k_ ∨ w.heap.size ≤ k_)) v1_ r2 ∧ Below w.heap.size w w' := by
  have hu24 := Try.underlying24
  have hu43 := Try.underlying43
  have HO0_1 := Aside0.mk (show Kd.V k43 43 w w.heap.size (fun k_ => (P0_1_ k_ ∨ w.heap.size ≤ k_)) (.slice A0_1 l0_1.length c0_1) l0_1 from Kd.V_mono hs0_1 (fun k_ hk => .inl hk))
  have HR4 := Aside0.mk hr4
  have HC4 := Aside0.mk hc4
  clear hr4 hc4
  have HB := Aside0.mk (Below.refl w.heap.size w)
  have H : (if (l4.length : Int) > 64 then (some (a0_0, l0_1, 3)) else ((chamberlainref07_There.f k a0_0 l0_1 a1).bind fun t222 => (if t222 = true then (some (a0_0, l0_1, 8)) else (if (l0_1.length : Int) ≥ a0_0 then (some (a0_0, l0_1, 10)) else ((some (([] : List Int) : List Int)).bind fun y223 => (if y223.length + l4.length < 35184372088832 then ((some (([] : List (S43)) : List (S43))).bind fun y230 => (if y230.length + l0_1.length < 3518437208883 then ((some (y230 ++ l0_1 : List (S43))).bind fun y233 => ((some (([(⟨a1, a2, a3, (y223 ++ l4)⟩ : S43)] : List (S43)) : List (S43))).bind fun y236 => (if y233.length + y236.length < 3518437208883 then (some (a0_0, (y233 ++ y236), 0)) else (none)))) else (none))) else (none))))))) = some (r1, r2, r3) := h
  clear h
  by_cases c6 : (l4.length : Int) > 64
  · rw [if_pos c6] at H
    have c6b0 : decide (64 < (l4.length : Int)) = true := decide_eq_true c6
    have c6b1 : decide (64 < l4.length) = true := decide_eq_true (by omega)
    clear c6
    simp only [Option.some.injEq, Prod.mk.injEq] at H
    obtain ⟨rfl, rfl, rfl⟩ := H
    go_enter Try.func13, Try.ntmps13
    go_wp2_with (first | ((with_reducible refine gate_dst (N := 5) rfl ?_); refine box_event ?hg (N := 5) ?hd (cs := #[.int .i64 a0_0, .slice A0_1 l0_1.length c0_1]) (t := 24) ?hr ?_; (case hd => rfl); (case hg => rfl); (case hr => first | (go_simp; done) | (go_simp; rfl)); intro gb220 hg w7 hbox hb; have n0_ := Aside0.mk (ve_ HO0_1.out gb220 hg hb); have n1_ := Aside0.mk (bs_ hb); have n2_ := Aside0.mk (hbox); have n4_ := Aside0.mk ((ge_ hg : w.heap.size ≤ gb220)); clear HO0_1 HB; have HO0_1 := n0_; have HB := n1_; have BK220 := n2_; have GE220 := n4_; clear n0_ n1_ n2_ n4_; clear hb hbox hg) | ((with_reducible refine gate_dst (N := 10) rfl ?_); refine box_event ?hg (N := 10) ?hd (cs := #[.int .i64 0, .slice none 0 0]) (t := 24) ?hr ?_; (case hd => rfl); (case hg => rfl); (case hr => first | (go_simp; done) | (go_simp; rfl)); intro gb221 hg w8 hbox hb; have n0_ := Aside0.mk (ve_ HO0_1.out gb221 hg hb); have n1_ := Aside0.mk (bb_ BK220.out hb); have n2_ := Aside0.mk (bs_ hb); have n3_ := Aside0.mk (hbox); have n5_ := Aside0.mk ((ge_ hg : w.heap.size ≤ gb221)); have n6_ := Aside0.mk ((by rw [hg]; exact Nat.ne_of_lt (blk_lt (g := gb220) (o := .cells #[.int .i64 a0_0, .slice A0_1 l0_1.length c0_1] 24 (0, 0)) (by (with_reducible repeat (first | refine blk_drewN ?_ _ | refine blk_drew ?_ | refine blk_alloc ?_ _)); exact BK220.out)) : gb220 ≠ gb221)); have n7_ := Aside0.mk ((by rw [hg]; exact Nat.ne_of_gt (blk_lt (g := gb220) (o := .cells #[.int .i64 a0_0, .slice A0_1 l0_1.length c0_1] 24 (0, 0)) (by (with_reducible repeat (first | refine blk_drewN ?_ _ | refine blk_drew ?_ | refine blk_alloc ?_ _)); exact BK220.out)) : gb221 ≠ gb220)); clear HO0_1 BK220 HB; have HO0_1 := n0_; have BK220 := n1_; have HB := n2_; have BK221 := n3_; have GE221 := n5_; have NB220_221 := n6_; have NB221_220 := n7_; clear n0_ n1_ n2_ n3_ n5_ n6_ n7_; clear hb hbox hg; have hnb9 := NB220_221.out; have hnc9 := NB221_220.out; have ⟨hcz10_0, hcz10_1⟩ := cz2_ BK220.out; have ⟨hfz10_0, hfz10_1⟩ := fz2_ BK220.out; have ⟨hcz11_0, hcz11_1⟩ := cz2_ BK221.out; have ⟨hfz11_0, hfz11_1⟩ := fz2_ BK221.out))
    refine bodyPost_ret (results_ct rfl _ _ gb221 24 #[.int .i64 a0_0, .slice A0_1 l0_1.length c0_1] (0, 0) _ rfl (bp2_ BK221.out) Try.underlying24 rfl (by kernel_rfl)) rfl ?_
    exact ⟨_, by first | rfl | (simp [errW_none, errW_some] <;> rfl) | (simp [*, errW_none, errW_some] <;> rfl), by (with_reducible repeat (first | apply Kd.V_alloc | apply Kd.V_drewN | apply Kd.V_drew)); exact Kd.V_mono (v2_ (g := gb221) (Kd.V_mono HO0_1.out (fun k_ hk => (⟨hk, hk.2⟩ : _ ∧ k_ ≠ gb221)))) (fun _ hk => hk.1.1.1), by repeat (first | (with_reducible first | exact HB.out | apply below_alloc | apply pw_below_drewN | apply below_drew1 | refine below_set ?_ GE220.out | refine below_set ?_ GE221.out) | exact HB.out)⟩
  · rw [if_neg c6] at H
    have c6b0 : decide (64 < (l4.length : Int)) = false := decide_eq_false c6
    have c6b1 : decide (64 < l4.length) = false := decide_eq_false (by omega)
    clear c6
    replace H := Option.bind_eq_some_iff.mp H
    obtain ⟨t222, A120, H⟩ := H
    replace H : (if t222 = true then (some (a0_0, l0_1, 8)) else (if (l0_1.length : Int) ≥ a0_0 then (some (a0_0, l0_1, 10)) else ((some (([] : List Int) : List Int)).bind fun y223 => (if y223.length + l4.length < 35184372088832 then ((some (([] : List (S43)) : List (S43))).bind fun y230 => (if y230.length + l0_1.length < 3518437208883 then ((some (y230 ++ l0_1 : List (S43))).bind fun y233 => ((some (([(⟨a1, a2, a3, (y223 ++ l4)⟩ : S43)] : List (S43)) : List (S43))).bind fun y236 => (if y233.length + y236.length < 3518437208883 then (some (a0_0, (y233 ++ y236), 0)) else (none)))) else (none))) else (none))))) = some (r1, r2, r3) := H
    have A12 := Aside0.mk A120
    clear A120
    by_cases c13 : t222 = true
    · subst c13
      have H1 : (some (a0_0, l0_1, 8)) = some (r1, r2, r3) := by rw [if_pos rfl] at H; exact H
      clear H
      have H := H1
      clear H1
      simp only [Option.some.injEq, Prod.mk.injEq] at H
      obtain ⟨rfl, rfl, rfl⟩ := H
      go_enter Try.func13, Try.ntmps13
      go_wp2_with (first | ((with_reducible refine gate_dst (N := 5) rfl ?_); refine box_event ?hg (N := 5) ?hd (cs := #[.int .i64 a0_0, .slice A0_1 l0_1.length c0_1]) (t := 24) ?hr ?_; (case hd => rfl); (case hg => rfl); (case hr => first | (go_simp; done) | (go_simp; rfl)); intro gb220 hg w14 hbox hb; have n0_ := Aside0.mk (ve_ HO0_1.out gb220 hg hb); have n1_ := Aside0.mk (bs_ hb); have n2_ := Aside0.mk (hbox); have n4_ := Aside0.mk ((ge_ hg : w.heap.size ≤ gb220)); clear HO0_1 HB; have HO0_1 := n0_; have HB := n1_; have BK220 := n2_; have GE220 := n4_; clear n0_ n1_ n2_ n4_; clear hb hbox hg) | ((with_reducible refine gate_dst (N := 10) rfl ?_); refine box_event ?hg (N := 10) ?hd (cs := #[.int .i64 0, .slice none 0 0]) (t := 24) ?hr ?_; (case hd => rfl); (case hg => rfl); (case hr => first | (go_simp; done) | (go_simp; rfl)); intro gb221 hg w15 hbox hb; have n0_ := Aside0.mk (ve_ HO0_1.out gb221 hg hb); have n1_ := Aside0.mk (bb_ BK220.out hb); have n2_ := Aside0.mk (bs_ hb); have n3_ := Aside0.mk (hbox); have n5_ := Aside0.mk ((ge_ hg : w.heap.size ≤ gb221)); have n6_ := Aside0.mk ((by rw [hg]; exact Nat.ne_of_lt (blk_lt (g := gb220) (o := .cells #[.int .i64 a0_0, .slice A0_1 l0_1.length c0_1] 24 (0, 0)) (by (with_reducible repeat (first | refine blk_drewN ?_ _ | refine blk_drew ?_ | refine blk_alloc ?_ _)); exact BK220.out)) : gb220 ≠ gb221)); have n7_ := Aside0.mk ((by rw [hg]; exact Nat.ne_of_gt (blk_lt (g := gb220) (o := .cells #[.int .i64 a0_0, .slice A0_1 l0_1.length c0_1] 24 (0, 0)) (by (with_reducible repeat (first | refine blk_drewN ?_ _ | refine blk_drew ?_ | refine blk_alloc ?_ _)); exact BK220.out)) : gb221 ≠ gb220)); clear HO0_1 BK220 HB; have HO0_1 := n0_; have BK220 := n1_; have HB := n2_; have BK221 := n3_; have GE221 := n5_; have NB220_221 := n6_; have NB221_220 := n7_; clear n0_ n1_ n2_ n3_ n5_ n6_ n7_; clear hb hbox hg; have hnb16 := NB220_221.out; have hnc16 := NB221_220.out; have ⟨hcz17_0, hcz17_1⟩ := cz2_ BK220.out; have ⟨hfz17_0, hfz17_1⟩ := fz2_ BK220.out) | ((with_reducible refine gate_callee (f := 20) rfl ?_); refine goesL_ (some 19) rfl rfl Try.func20 (by kernel_rfl) rfl #[.agg #[.int .i64 a0_0, .slice A0_1 l0_1.length c0_1], .int .u32 a1] rfl (by (try simp only [List.map_toArray, List.map_cons, List.map_nil]); first | done | rfl | (simp only [List.length_drop, List.length_take]; rfl)) ?_; (with_reducible refine (chamberlainref07_There.calls k a0_0 _ _ l0_1 a1 true _ ?side1 ?side2 A12.out).mono ?_); (case side1 => repeat (first | exact (Kd.V_reads' HO0_1.out).2.2 | (with_reducible refine Kd.C_alloc ?_ _) | (with_reducible refine Kd.C_drewN ?_ _) | (with_reducible refine Kd.C_drew ?_))); (case side2 => exact (Kd.V_reads' HO0_1.out).2.1); rintro e w18 ⟨rfl, hb⟩; refine ⟨_, rfl, ?_⟩; have n0_ := Aside0.mk (vb_ HO0_1.out hb); have n1_ := Aside0.mk (bb_ BK220.out hb); have n2_ := Aside0.mk (bb_ BK221.out hb); have n3_ := Aside0.mk (bs_ hb); clear HO0_1 BK220 BK221 HB; have HO0_1 := n0_; have BK220 := n1_; have BK221 := n2_; have HB := n3_; clear n0_ n1_ n2_ n3_; (try clear hb); (try clear hb2); (try clear hk); (try clear hi); have ⟨hcz19_0, hcz19_1⟩ := cz2_ BK220.out; have ⟨hfz19_0, hfz19_1⟩ := fz2_ BK220.out; have ⟨hcz20_0, hcz20_1⟩ := cz2_ BK221.out; have ⟨hfz20_0, hfz20_1⟩ := fz2_ BK221.out))
      refine bodyPost_ret (results_ct rfl _ _ gb221 24 #[.int .i64 a0_0, .slice A0_1 l0_1.length c0_1] (0, 0) _ rfl (bp2_ BK221.out) Try.underlying24 rfl (by kernel_rfl)) rfl ?_
      exact ⟨_, by first | rfl | (simp [errW_none, errW_some] <;> rfl) | (simp [*, errW_none, errW_some] <;> rfl), by (with_reducible repeat (first | apply Kd.V_alloc | apply Kd.V_drewN | apply Kd.V_drew)); exact Kd.V_mono (v2_ (g := gb221) (Kd.V_mono HO0_1.out (fun k_ hk => (⟨hk, hk.2⟩ : _ ∧ k_ ≠ gb221)))) (fun _ hk => hk.1.1.1), by repeat (first | (with_reducible first | exact HB.out | apply below_alloc | apply pw_below_drewN | apply below_drew1 | refine below_set ?_ GE220.out | refine below_set ?_ GE221.out) | exact HB.out)⟩
    · replace c13 := Bool.eq_false_iff.mpr c13
      subst c13
      have H1 : (if (l0_1.length : Int) ≥ a0_0 then (some (a0_0, l0_1, 10)) else ((some (([] : List Int) : List Int)).bind fun y223 => (if y223.length + l4.length < 35184372088832 then ((some (([] : List (S43)) : List (S43))).bind fun y230 => (if y230.length + l0_1.length < 3518437208883 then ((some (y230 ++ l0_1 : List (S43))).bind fun y233 => ((some (([(⟨a1, a2, a3, (y223 ++ l4)⟩ : S43)] : List (S43)) : List (S43))).bind fun y236 => (if y233.length + y236.length < 3518437208883 then (some (a0_0, (y233 ++ y236), 0)) else (none)))) else (none))) else (none)))) = some (r1, r2, r3) := by rw [if_neg (show ¬ (false = true) by decide)] at H; exact H
      clear H
      have H := H1
      clear H1
      by_cases c21 : (l0_1.length : Int) ≥ a0_0
      · rw [if_pos c21] at H
        have c21b0 : decide (a0_0 ≤ (l0_1.length : Int)) = true := decide_eq_true c21
        clear c21
        simp only [Option.some.injEq, Prod.mk.injEq] at H
        obtain ⟨rfl, rfl, rfl⟩ := H
        go_enter Try.func13, Try.ntmps13
        go_wp2_with (first | ((with_reducible refine gate_dst (N := 5) rfl ?_); refine box_event ?hg (N := 5) ?hd (cs := #[.int .i64 a0_0, .slice A0_1 l0_1.length c0_1]) (t := 24) ?hr ?_; (case hd => rfl); (case hg => rfl); (case hr => first | (go_simp; done) | (go_simp; rfl)); intro gb220 hg w22 hbox hb; have n0_ := Aside0.mk (ve_ HO0_1.out gb220 hg hb); have n1_ := Aside0.mk (bs_ hb); have n2_ := Aside0.mk (hbox); have n4_ := Aside0.mk ((ge_ hg : w.heap.size ≤ gb220)); clear HO0_1 HB; have HO0_1 := n0_; have HB := n1_; have BK220 := n2_; have GE220 := n4_; clear n0_ n1_ n2_ n4_; clear hb hbox hg) | ((with_reducible refine gate_dst (N := 10) rfl ?_); refine box_event ?hg (N := 10) ?hd (cs := #[.int .i64 0, .slice none 0 0]) (t := 24) ?hr ?_; (case hd => rfl); (case hg => rfl); (case hr => first | (go_simp; done) | (go_simp; rfl)); intro gb221 hg w23 hbox hb; have n0_ := Aside0.mk (ve_ HO0_1.out gb221 hg hb); have n1_ := Aside0.mk (bb_ BK220.out hb); have n2_ := Aside0.mk (bs_ hb); have n3_ := Aside0.mk (hbox); have n5_ := Aside0.mk ((ge_ hg : w.heap.size ≤ gb221)); have n6_ := Aside0.mk ((by rw [hg]; exact Nat.ne_of_lt (blk_lt (g := gb220) (o := .cells #[.int .i64 a0_0, .slice A0_1 l0_1.length c0_1] 24 (0, 0)) (by (with_reducible repeat (first | refine blk_drewN ?_ _ | refine blk_drew ?_ | refine blk_alloc ?_ _)); exact BK220.out)) : gb220 ≠ gb221)); have n7_ := Aside0.mk ((by rw [hg]; exact Nat.ne_of_gt (blk_lt (g := gb220) (o := .cells #[.int .i64 a0_0, .slice A0_1 l0_1.length c0_1] 24 (0, 0)) (by (with_reducible repeat (first | refine blk_drewN ?_ _ | refine blk_drew ?_ | refine blk_alloc ?_ _)); exact BK220.out)) : gb221 ≠ gb220)); clear HO0_1 BK220 HB; have HO0_1 := n0_; have BK220 := n1_; have HB := n2_; have BK221 := n3_; have GE221 := n5_; have NB220_221 := n6_; have NB221_220 := n7_; clear n0_ n1_ n2_ n3_ n5_ n6_ n7_; clear hb hbox hg; have hnb24 := NB220_221.out; have hnc24 := NB221_220.out; have ⟨hcz25_0, hcz25_1⟩ := cz2_ BK220.out; have ⟨hfz25_0, hfz25_1⟩ := fz2_ BK220.out) | ((with_reducible refine gate_callee (f := 20) rfl ?_); refine goesL_ (some 19) rfl rfl Try.func20 (by kernel_rfl) rfl #[.agg #[.int .i64 a0_0, .slice A0_1 l0_1.length c0_1], .int .u32 a1] rfl (by (try simp only [List.map_toArray, List.map_cons, List.map_nil]); first | done | rfl | (simp only [List.length_drop, List.length_take]; rfl)) ?_; (with_reducible refine (chamberlainref07_There.calls k a0_0 _ _ l0_1 a1 false _ ?side1 ?side2 A12.out).mono ?_); (case side1 => repeat (first | exact (Kd.V_reads' HO0_1.out).2.2 | (with_reducible refine Kd.C_alloc ?_ _) | (with_reducible refine Kd.C_drewN ?_ _) | (with_reducible refine Kd.C_drew ?_))); (case side2 => exact (Kd.V_reads' HO0_1.out).2.1); rintro e w26 ⟨rfl, hb⟩; refine ⟨_, rfl, ?_⟩; have n0_ := Aside0.mk (vb_ HO0_1.out hb); have n1_ := Aside0.mk (bb_ BK220.out hb); have n2_ := Aside0.mk (bb_ BK221.out hb); have n3_ := Aside0.mk (bs_ hb); clear HO0_1 BK220 BK221 HB; have HO0_1 := n0_; have BK220 := n1_; have BK221 := n2_; have HB := n3_; clear n0_ n1_ n2_ n3_; (try clear hb); (try clear hb2); (try clear hk); (try clear hi); have ⟨hcz27_0, hcz27_1⟩ := cz2_ BK220.out; have ⟨hfz27_0, hfz27_1⟩ := fz2_ BK220.out; have ⟨hcz28_0, hcz28_1⟩ := cz2_ BK221.out; have ⟨hfz28_0, hfz28_1⟩ := fz2_ BK221.out))
        refine bodyPost_ret (results_ct rfl _ _ gb221 24 #[.int .i64 a0_0, .slice A0_1 l0_1.length c0_1] (0, 0) _ rfl (bp2_ BK221.out) Try.underlying24 rfl (by kernel_rfl)) rfl ?_
        exact ⟨_, by first | rfl | (simp [errW_none, errW_some] <;> rfl) | (simp [*, errW_none, errW_some] <;> rfl), by (with_reducible repeat (first | apply Kd.V_alloc | apply Kd.V_drewN | apply Kd.V_drew)); exact Kd.V_mono (v2_ (g := gb221) (Kd.V_mono HO0_1.out (fun k_ hk => (⟨hk, hk.2⟩ : _ ∧ k_ ≠ gb221)))) (fun _ hk => hk.1.1.1), by repeat (first | (with_reducible first | exact HB.out | apply below_alloc | apply pw_below_drewN | apply below_drew1 | refine below_set ?_ GE220.out | refine below_set ?_ GE221.out) | exact HB.out)⟩
      · rw [if_neg c21] at H
        have c21b0 : decide (a0_0 ≤ (l0_1.length : Int)) = false := decide_eq_false c21
        clear c21
        obtain ⟨y223, hy223⟩ : ∃ y_ : List Int, y_ = (([] : List Int)) := ⟨_, rfl⟩
        replace H : (if y223.length + l4.length < 35184372088832 then ((some (([] : List (S43)) : List (S43))).bind fun y230 => (if y230.length + l0_1.length < 3518437208883 then ((some (y230 ++ l0_1 : List (S43))).bind fun y233 => ((some (([(⟨a1, a2, a3, (y223 ++ l4)⟩ : S43)] : List (S43)) : List (S43))).bind fun y236 => (if y233.length + y236.length < 3518437208883 then (some (a0_0, (y233 ++ y236), 0)) else (none)))) else (none))) else (none)) = some (r1, r2, r3) := by first | (rw [hy223]; with_reducible exact H) | (have H2_ := (Option.bind_some _ _).symm.trans H; rw [hy223]; with_reducible exact H2_) | (have H2_ := (Option.bind_some _ _).symm.trans H; with_reducible exact H2_) | with_reducible exact H | (rw [hy223]; exact H) | exact H
        have Ny223 := Aside0.mk hy223
        clear hy223
        by_cases c29 : y223.length + l4.length < 35184372088832
        · rw [if_pos c29] at H
          have LMc29 := Aside0.mk c29
          clear c29
          obtain ⟨y226, hy226⟩ : ∃ y_ : List Int, y_ = (y223 ++ l4) := ⟨_, rfl⟩
          replace H : ((some (([] : List (S43)) : List (S43))).bind fun y230 => (if y230.length + l0_1.length < 3518437208883 then ((some (y230 ++ l0_1 : List (S43))).bind fun y233 => ((some (([(⟨a1, a2, a3, y226⟩ : S43)] : List (S43)) : List (S43))).bind fun y236 => (if y233.length + y236.length < 3518437208883 then (some (a0_0, (y233 ++ y236), 0)) else (none)))) else (none))) = some (r1, r2, r3) := by first | (rw [hy226]; with_reducible exact H) | (have H2_ := (Option.bind_some _ _).symm.trans H; rw [hy226]; with_reducible exact H2_) | (have H2_ := (Option.bind_some _ _).symm.trans H; with_reducible exact H2_) | with_reducible exact H | (rw [hy226]; exact H) | exact H
          have Ny226 := Aside0.mk hy226
          clear hy226
          obtain ⟨y230, hy230⟩ : ∃ y_ : List (S43), y_ = (([] : List (S43))) := ⟨_, rfl⟩
          replace H : (if y230.length + l0_1.length < 3518437208883 then ((some (y230 ++ l0_1 : List (S43))).bind fun y233 => ((some (([(⟨a1, a2, a3, y226⟩ : S43)] : List (S43)) : List (S43))).bind fun y236 => (if y233.length + y236.length < 3518437208883 then (some (a0_0, (y233 ++ y236), 0)) else (none)))) else (none)) = some (r1, r2, r3) := by first | (rw [hy230]; with_reducible exact H) | (have H2_ := (Option.bind_some _ _).symm.trans H; rw [hy230]; with_reducible exact H2_) | (have H2_ := (Option.bind_some _ _).symm.trans H; with_reducible exact H2_) | with_reducible exact H | (rw [hy230]; exact H) | exact H
          have Ny230 := Aside0.mk hy230
          clear hy230
          by_cases c30 : y230.length + l0_1.length < 3518437208883
          · rw [if_pos c30] at H
            have LMc30 := Aside0.mk c30
            clear c30
            obtain ⟨y233, hy233⟩ : ∃ y_ : List (S43), y_ = (y230 ++ l0_1) := ⟨_, rfl⟩
            replace H : ((some (([(⟨a1, a2, a3, y226⟩ : S43)] : List (S43)) : List (S43))).bind fun y236 => (if y233.length + y236.length < 3518437208883 then (some (a0_0, (y233 ++ y236), 0)) else (none))) = some (r1, r2, r3) := by first | (rw [hy233]; with_reducible exact H) | (have H2_ := (Option.bind_some _ _).symm.trans H; rw [hy233]; with_reducible exact H2_) | (have H2_ := (Option.bind_some _ _).symm.trans H; with_reducible exact H2_) | with_reducible exact H | (rw [hy233]; exact H) | exact H
            have Ny233 := Aside0.mk hy233
            clear hy233
            obtain ⟨y236, hy236⟩ : ∃ y_ : List (S43), y_ = (([(⟨a1, a2, a3, y226⟩ : S43)] : List (S43))) := ⟨_, rfl⟩
            replace H : (if y233.length + y236.length < 3518437208883 then (some (a0_0, (y233 ++ y236), 0)) else (none)) = some (r1, r2, r3) := by first | (rw [hy236]; with_reducible exact H) | (have H2_ := (Option.bind_some _ _).symm.trans H; rw [hy236]; with_reducible exact H2_) | (have H2_ := (Option.bind_some _ _).symm.trans H; with_reducible exact H2_) | with_reducible exact H | (rw [hy236]; exact H) | exact H
            have Ny236 := Aside0.mk hy236
            clear hy236
            by_cases c31 : y233.length + y236.length < 3518437208883
            · rw [if_pos c31] at H
              have LMc31 := Aside0.mk c31
              clear c31
              obtain ⟨y239, hy239⟩ : ∃ y_ : List (S43), y_ = (y233 ++ y236) := ⟨_, rfl⟩
              replace H : (some (a0_0, y239, 0)) = some (r1, r2, r3) := by first | (rw [hy239]; with_reducible exact H) | (have H2_ := (Option.bind_some _ _).symm.trans H; rw [hy239]; with_reducible exact H2_) | (have H2_ := (Option.bind_some _ _).symm.trans H; with_reducible exact H2_) | with_reducible exact H | (rw [hy239]; exact H) | exact H
              have Ny239 := Aside0.mk hy239
              clear hy239
              simp only [Option.some.injEq, Prod.mk.injEq] at H
              obtain ⟨rfl, rfl, rfl⟩ := H
              go_enter Try.func13, Try.ntmps13
              try go_wp2_with (first | ((with_reducible refine gate_dst (N := 5) rfl ?_); refine box_event ?hg (N := 5) ?hd (cs := #[.int .i64 a0_0, .slice A0_1 l0_1.length c0_1]) (t := 24) ?hr ?_; (case hd => rfl); (case hg => rfl); (case hr => first | (go_simp; done) | (go_simp; rfl)); intro gb220 hg w32 hbox hb; have n0_ := Aside0.mk (ve_ HO0_1.out gb220 hg hb); have n1_ := Aside0.mk (bs_ hb); have n2_ := Aside0.mk (hbox); have n4_ := Aside0.mk ((ge_ hg : w.heap.size ≤ gb220)); clear HO0_1 HB; have HO0_1 := n0_; have HB := n1_; have BK220 := n2_; have GE220 := n4_; clear n0_ n1_ n2_ n4_; clear hb hbox hg) | ((with_reducible refine gate_dst (N := 10) rfl ?_); refine box_event ?hg (N := 10) ?hd (cs := #[.int .i64 0, .slice none 0 0]) (t := 24) ?hr ?_; (case hd => rfl); (case hg => rfl); (case hr => first | (go_simp; done) | (go_simp; rfl)); intro gb221 hg w33 hbox hb; have n0_ := Aside0.mk (ve_ HO0_1.out gb221 hg hb); have n1_ := Aside0.mk (bb_ BK220.out hb); have n2_ := Aside0.mk (bs_ hb); have n3_ := Aside0.mk (hbox); have n5_ := Aside0.mk ((ge_ hg : w.heap.size ≤ gb221)); have n6_ := Aside0.mk ((by rw [hg]; exact Nat.ne_of_lt (blk_lt (g := gb220) (o := .cells #[.int .i64 a0_0, .slice A0_1 l0_1.length c0_1] 24 (0, 0)) (by (with_reducible repeat (first | refine blk_drewN ?_ _ | refine blk_drew ?_ | refine blk_alloc ?_ _)); exact BK220.out)) : gb220 ≠ gb221)); have n7_ := Aside0.mk ((by rw [hg]; exact Nat.ne_of_gt (blk_lt (g := gb220) (o := .cells #[.int .i64 a0_0, .slice A0_1 l0_1.length c0_1] 24 (0, 0)) (by (with_reducible repeat (first | refine blk_drewN ?_ _ | refine blk_drew ?_ | refine blk_alloc ?_ _)); exact BK220.out)) : gb221 ≠ gb220)); clear HO0_1 BK220 HB; have HO0_1 := n0_; have BK220 := n1_; have HB := n2_; have BK221 := n3_; have GE221 := n5_; have NB220_221 := n6_; have NB221_220 := n7_; clear n0_ n1_ n2_ n3_ n5_ n6_ n7_; clear hb hbox hg; have hnb34 := NB220_221.out; have hnc34 := NB221_220.out; have ⟨hcz35_0, hcz35_1⟩ := cz2_ BK220.out; have ⟨hfz35_0, hfz35_1⟩ := fz2_ BK220.out) | ((with_reducible refine gate_callee (f := 20) rfl ?_); refine goesL_ (some 19) rfl rfl Try.func20 (by kernel_rfl) rfl #[.agg #[.int .i64 a0_0, .slice A0_1 l0_1.length c0_1], .int .u32 a1] rfl (by (try simp only [List.map_toArray, List.map_cons, List.map_nil]); first | done | rfl | (simp only [List.length_drop, List.length_take]; rfl)) ?_; (with_reducible refine (chamberlainref07_There.calls k a0_0 _ _ l0_1 a1 false _ ?side1 ?side2 A12.out).mono ?_); (case side1 => repeat (first | exact (Kd.V_reads' HO0_1.out).2.2 | (with_reducible refine Kd.C_alloc ?_ _) | (with_reducible refine Kd.C_drewN ?_ _) | (with_reducible refine Kd.C_drew ?_))); (case side2 => exact (Kd.V_reads' HO0_1.out).2.1); rintro e w36 ⟨rfl, hb⟩; refine ⟨_, rfl, ?_⟩; have n0_ := Aside0.mk (vb_ HO0_1.out hb); have n1_ := Aside0.mk (bb_ BK220.out hb); have n2_ := Aside0.mk (bb_ BK221.out hb); have n3_ := Aside0.mk (bs_ hb); clear HO0_1 BK220 BK221 HB; have HO0_1 := n0_; have BK220 := n1_; have BK221 := n2_; have HB := n3_; clear n0_ n1_ n2_ n3_; (try clear hb); (try clear hb2); (try clear hk); (try clear hi); have ⟨hcz37_0, hcz37_1⟩ := cz2_ BK220.out; have ⟨hfz37_0, hfz37_1⟩ := fz2_ BK220.out) | ((with_reducible refine gate_dst (N := 31) rfl ?_); refine Kd.R_lit (Kd.int .u32) _ 25 ?hg (N := 31) ?hd (xs := ([] : List Int)) (inner := []) (ok := fun _ => True) (okp := fun _ => True) ?hr ?hp (fun _ hk => hk) trivial (Below.refl _ _) (Nat.le_refl _) (by simp) ?_; (case hd => rfl); (case hg => rfl); (case hr => first | (go_simp; done) | (go_simp; rfl)); (case hp => exact (Reps.none _ _)); intro v224 w38 ho39 hb hg_ hnew_; clear hg_ hnew_; (first | rw [← Ny223.out] at ho39 | (simp only [Int.reduceToNat] at ho39; rw [← Ny223.out] at ho39)); have n0_ := Aside0.mk (vf_ HO0_1.out (Kd.R_base ho39) hb); have n1_ := Aside0.mk (Kd.R_lower (Kd.R_newM (M := fun k_ => (w.heap.size ≤ k_)) ho39 (below_size (by repeat (first | (with_reducible first | exact HB.out | apply below_alloc | apply pw_below_drewN | apply below_drew1 | refine below_set ?_ GE220.out | refine below_set ?_ GE221.out) | exact HB.out))) (fun k_ h_ => h_)) (below_size (by repeat (first | (with_reducible first | exact HB.out | apply below_alloc | apply pw_below_drewN | apply below_drew1 | refine below_set ?_ GE220.out | refine below_set ?_ GE221.out) | exact HB.out)))); have n2_ := Aside0.mk (bb_ BK220.out hb); have n3_ := Aside0.mk (bb_ BK221.out hb); have n4_ := Aside0.mk (bs_ hb); clear HO0_1 BK220 BK221 HB; have HO0_1 := n0_; have HO225 := n1_; have BK220 := n2_; have BK221 := n3_; have HB := n4_; clear n0_ n1_ n2_ n3_ n4_; clear hb ho39) | ((with_reducible refine gate_builtin (b := .append) (xs := #[.tmp 31, .tmp 32]) rfl ?_); at_builtin; refine Kd.R_append_rows (Kd.int .u32) (w0 := w) w.heap.size rfl (.tmp 31) (.tmp 32) 26 25 (.int .u32 0) 4 rfl Try.underlying26 info25 rfl (by decide) (by omega) v224 y223 l4 _ _ _ (fun k_ => (w.heap.size ≤ k_)) (fun _ => False) rfl rfl ?aO ?aR (fun _ _ h => h) (fun _ h => h.elim) ?aF ?aB ?aS ?aL ?_; (case aR => repeat (first | exact (Kd.C_below HR4.out HB.out) | (with_reducible refine Kd.C_alloc ?_ _) | (with_reducible refine Kd.C_drewN ?_ _) | (with_reducible refine Kd.C_drew ?_))); (case aB => exact (by repeat (first | (with_reducible first | exact HB.out | apply below_alloc | apply pw_below_drewN | apply below_drew1 | refine below_set ?_ GE220.out | refine below_set ?_ GE221.out) | exact HB.out))); (case aF => exact (fun k_ hk => (Nat.le_trans (below_size (by repeat (first | (with_reducible first | exact HB.out | apply below_alloc | apply pw_below_drewN | apply below_drew1 | refine below_set ?_ GE220.out | refine below_set ?_ GE221.out) | exact HB.out))) hk))); (case aO => exact (by (with_reducible repeat (first | apply Kd.R_alloc | apply Kd.R_drewN | apply Kd.R_drew)); exact Kd.R_mono HO225.out (fun _ hk => hk.1))); (case aS => exact (below_size (by repeat (first | (with_reducible first | exact HB.out | apply below_alloc | apply pw_below_drewN | apply below_drew1 | refine below_set ?_ GE220.out | refine below_set ?_ GE221.out) | exact HB.out)))); (case aL => have := LMc29.out; omega); intro v227 w40 ho hb hg hat; rw [← Ny226.out] at ho; have n0_ := Aside0.mk (Kd.V_afterv (ok := (fun k_ => (P0_1_ k_ ∨ w.heap.size ≤ k_) ∧ k_ ≠ gb220 ∧ k_ ≠ gb221)) (by (with_reducible repeat (first | apply Kd.V_alloc | apply Kd.V_drewN | apply Kd.V_drew)); exact Kd.V_mono HO0_1.out (fun _ hk => ⟨⟨hk.1.1.1, ⟨hk.1.1.2, hk.1.2⟩⟩, hk.2⟩)) hg hat); have n1_ := Aside0.mk (blk_grown (g := gb220) (o := .cells #[.int .i64 a0_0, .slice A0_1 l0_1.length c0_1] 24 (0, 0)) (by (with_reducible repeat (first | refine blk_drewN ?_ _ | refine blk_drew ?_ | refine blk_alloc ?_ _)); exact BK220.out) hg (Kd.R_ne HO225.out BK220.out (by decide))); have n2_ := Aside0.mk (blk_grown (g := gb221) (o := .cells #[.int .i64 0, .slice none 0 0] 24 (0, 0)) (by (with_reducible repeat (first | refine blk_drewN ?_ _ | refine blk_drew ?_ | refine blk_alloc ?_ _)); exact BK221.out) hg (Kd.R_ne HO225.out BK221.out (by decide))); have n3_ := Aside0.mk (hb); have n4_ := Aside0.mk (ho); clear HO0_1 BK220 BK221 HB HO225; have HO0_1 := n0_; have BK220 := n1_; have BK221 := n2_; have HB := n3_; have HO228 := n4_; clear n0_ n1_ n2_ n3_ n4_; clear ho hb hg hat; obtain ⟨Ao41, co41, eo41⟩ := Kd.R_slice HO228.out; subst eo41) | ((with_reducible refine gate_dst (N := 12) rfl ?_); refine box_event ?hg (N := 12) ?hd (cs := #[.int .u32 0, .int .u32 0, .int .u32 0, .slice none 0 0]) (t := 43) ?hr ?_; (case hd => rfl); (case hg => rfl); (case hr => first | (go_simp; done) | (go_simp; rfl)); intro gb229 hg w42 hbox hb; have n0_ := Aside0.mk (ve_ HO0_1.out gb229 hg hb); have n1_ := Aside0.mk (rb_ HO228.out hb); have n2_ := Aside0.mk (bb_ BK220.out hb); have n3_ := Aside0.mk (bb_ BK221.out hb); have n4_ := Aside0.mk (bs_ hb); have n5_ := Aside0.mk (hbox); have n7_ := Aside0.mk ((ge_ hg : w.heap.size ≤ gb229)); have n8_ := Aside0.mk ((by rw [hg]; exact Nat.ne_of_lt (blk_lt (g := gb220) (o := .cells #[.int .i64 a0_0, .slice A0_1 l0_1.length c0_1] 24 (0, 0)) (by (with_reducible repeat (first | refine blk_drewN ?_ _ | refine blk_drew ?_ | refine blk_alloc ?_ _)); exact BK220.out)) : gb220 ≠ gb229)); have n9_ := Aside0.mk ((by rw [hg]; exact Nat.ne_of_gt (blk_lt (g := gb220) (o := .cells #[.int .i64 a0_0, .slice A0_1 l0_1.length c0_1] 24 (0, 0)) (by (with_reducible repeat (first | refine blk_drewN ?_ _ | refine blk_drew ?_ | refine blk_alloc ?_ _)); exact BK220.out)) : gb229 ≠ gb220)); have n10_ := Aside0.mk ((by rw [hg]; exact Nat.ne_of_lt (blk_lt (g := gb221) (o := .cells #[.int .i64 0, .slice none 0 0] 24 (0, 0)) (by (with_reducible repeat (first | refine blk_drewN ?_ _ | refine blk_drew ?_ | refine blk_alloc ?_ _)); exact BK221.out)) : gb221 ≠ gb229)); have n11_ := Aside0.mk ((by rw [hg]; exact Nat.ne_of_gt (blk_lt (g := gb221) (o := .cells #[.int .i64 0, .slice none 0 0] 24 (0, 0)) (by (with_reducible repeat (first | refine blk_drewN ?_ _ | refine blk_drew ?_ | refine blk_alloc ?_ _)); exact BK221.out)) : gb229 ≠ gb221)); clear HO0_1 HO228 BK220 BK221 HB; have HO0_1 := n0_; have HO228 := n1_; have BK220 := n2_; have BK221 := n3_; have HB := n4_; have BK229 := n5_; have GE229 := n7_; have NB220_229 := n8_; have NB229_220 := n9_; have NB221_229 := n10_; have NB229_221 := n11_; clear n0_ n1_ n2_ n3_ n4_ n5_ n7_ n8_ n9_ n10_ n11_; clear hb hbox hg; have hnb43 := NB229_220.out; have hnc43 := NB220_229.out; have hnb44 := NB229_221.out; have hnc44 := NB221_229.out; have ⟨hcz45_0, hcz45_1, hcz45_2, hcz45_3⟩ := cz4_ BK229.out; have ⟨hfz45_0, hfz45_1, hfz45_2, hfz45_3⟩ := fz4_ BK229.out))
              have n0_ : Aside0 (Kd.V k43 43 ((((w42.setCell ⟨gb229, 0, none⟩ (.int .u32 a1)).setCell ⟨gb229, 1, none⟩ (.int .u32 a2)).setCell ⟨gb229, 2, none⟩ (.int .u32 a3)).setCell ⟨gb229, 3, none⟩ (.slice Ao41 y226.length co41)) w.heap.size (fun k_ => (P0_1_ k_ ∨ w.heap.size ≤ k_) ∧ some k_ ≠ (.slice Ao41 y226.length co41 : Value).ownBlock ∧ k_ ≠ gb220 ∧ k_ ≠ gb221 ∧ k_ ≠ gb229) (.slice A0_1 l0_1.length c0_1) l0_1) := ⟨by (with_reducible repeat (first | apply Kd.V_alloc | apply Kd.V_drewN | apply Kd.V_drew)); exact Kd.V_mono (v4_ (g := gb229) (Kd.V_mono HO0_1.out (fun k_ hk => (⟨hk, hk.2⟩ : _ ∧ k_ ≠ gb229)))) (fun _ hk => ⟨hk.1.1.1.1, ⟨hk.1.1.2, ⟨hk.1.1.1.2.1, ⟨hk.1.1.1.2.2, hk.1.2⟩⟩⟩⟩)⟩
              have n1_ : Aside0 (Kd.R (Kd.int .u32) 25 ((((w42.setCell ⟨gb229, 0, none⟩ (.int .u32 a1)).setCell ⟨gb229, 1, none⟩ (.int .u32 a2)).setCell ⟨gb229, 2, none⟩ (.int .u32 a3)).setCell ⟨gb229, 3, none⟩ (.slice Ao41 y226.length co41)) w.heap.size (fun k_ => (w.heap.size ≤ k_)) (.slice Ao41 y226.length co41) y226) := ⟨by (with_reducible repeat (first | apply Kd.R_alloc | apply Kd.R_drewN | apply Kd.R_drew)); exact Kd.R_mono (r4_ (g := gb229) (Kd.R_types HO228.out BK229.out (by decide))) (fun _ hk => hk.1)⟩
              have n2_ : Aside0 (((((w42.setCell ⟨gb229, 0, none⟩ (.int .u32 a1)).setCell ⟨gb229, 1, none⟩ (.int .u32 a2)).setCell ⟨gb229, 2, none⟩ (.int .u32 a3)).setCell ⟨gb229, 3, none⟩ (.slice Ao41 y226.length co41)).heap[gb220]? = some (.cells #[.int .i64 a0_0, .slice A0_1 l0_1.length c0_1] 24 (0, 0))) := ⟨by (with_reducible repeat (first | refine blk_drewN ?_ _ | refine blk_drew ?_ | refine blk_alloc ?_ _)); refine blk_far ?_ NB220_229.out _; (with_reducible repeat (first | refine blk_drewN ?_ _ | refine blk_drew ?_ | refine blk_alloc ?_ _)); refine blk_far ?_ NB220_229.out _; (with_reducible repeat (first | refine blk_drewN ?_ _ | refine blk_drew ?_ | refine blk_alloc ?_ _)); refine blk_far ?_ NB220_229.out _; (with_reducible repeat (first | refine blk_drewN ?_ _ | refine blk_drew ?_ | refine blk_alloc ?_ _)); refine blk_far ?_ NB220_229.out _; (with_reducible repeat (first | refine blk_drewN ?_ _ | refine blk_drew ?_ | refine blk_alloc ?_ _)); exact BK220.out⟩
              have n3_ : Aside0 (((((w42.setCell ⟨gb229, 0, none⟩ (.int .u32 a1)).setCell ⟨gb229, 1, none⟩ (.int .u32 a2)).setCell ⟨gb229, 2, none⟩ (.int .u32 a3)).setCell ⟨gb229, 3, none⟩ (.slice Ao41 y226.length co41)).heap[gb221]? = some (.cells #[.int .i64 0, .slice none 0 0] 24 (0, 0))) := ⟨by (with_reducible repeat (first | refine blk_drewN ?_ _ | refine blk_drew ?_ | refine blk_alloc ?_ _)); refine blk_far ?_ NB221_229.out _; (with_reducible repeat (first | refine blk_drewN ?_ _ | refine blk_drew ?_ | refine blk_alloc ?_ _)); refine blk_far ?_ NB221_229.out _; (with_reducible repeat (first | refine blk_drewN ?_ _ | refine blk_drew ?_ | refine blk_alloc ?_ _)); refine blk_far ?_ NB221_229.out _; (with_reducible repeat (first | refine blk_drewN ?_ _ | refine blk_drew ?_ | refine blk_alloc ?_ _)); refine blk_far ?_ NB221_229.out _; (with_reducible repeat (first | refine blk_drewN ?_ _ | refine blk_drew ?_ | refine blk_alloc ?_ _)); exact BK221.out⟩
              have n4_ : Aside0 (((((w42.setCell ⟨gb229, 0, none⟩ (.int .u32 a1)).setCell ⟨gb229, 1, none⟩ (.int .u32 a2)).setCell ⟨gb229, 2, none⟩ (.int .u32 a3)).setCell ⟨gb229, 3, none⟩ (.slice Ao41 y226.length co41)).heap[gb229]? = some (.cells #[.int .u32 a1, .int .u32 a2, .int .u32 a3, .slice Ao41 y226.length co41] 43 (0, 0))) := ⟨by (with_reducible repeat (first | refine blk_drewN ?_ _ | refine blk_drew ?_ | refine blk_alloc ?_ _)); refine blk_put (cs := #[.int .u32 a1, .int .u32 a2, .int .u32 a3, .slice none 0 0]) ?_ 3 _ rfl; (with_reducible repeat (first | refine blk_drewN ?_ _ | refine blk_drew ?_ | refine blk_alloc ?_ _)); refine blk_put (cs := #[.int .u32 a1, .int .u32 a2, .int .u32 0, .slice none 0 0]) ?_ 2 _ rfl; (with_reducible repeat (first | refine blk_drewN ?_ _ | refine blk_drew ?_ | refine blk_alloc ?_ _)); refine blk_put (cs := #[.int .u32 a1, .int .u32 0, .int .u32 0, .slice none 0 0]) ?_ 1 _ rfl; (with_reducible repeat (first | refine blk_drewN ?_ _ | refine blk_drew ?_ | refine blk_alloc ?_ _)); refine blk_put (cs := #[.int .u32 0, .int .u32 0, .int .u32 0, .slice none 0 0]) ?_ 0 _ rfl; (with_reducible repeat (first | refine blk_drewN ?_ _ | refine blk_drew ?_ | refine blk_alloc ?_ _)); exact BK229.out⟩
              have n5_ : Aside0 (Below w.heap.size w ((((w42.setCell ⟨gb229, 0, none⟩ (.int .u32 a1)).setCell ⟨gb229, 1, none⟩ (.int .u32 a2)).setCell ⟨gb229, 2, none⟩ (.int .u32 a3)).setCell ⟨gb229, 3, none⟩ (.slice Ao41 y226.length co41))) := ⟨by repeat (first | (with_reducible first | exact HB.out | apply below_alloc | apply pw_below_drewN | apply below_drew1 | refine below_set ?_ GE220.out | refine below_set ?_ GE221.out | refine below_set ?_ GE229.out) | exact HB.out)⟩
              (try clear HO0_1)
              (try clear HO228)
              (try clear BK220)
              (try clear BK221)
              (try clear BK229)
              (try clear HB)
              generalize ((((w42.setCell ⟨gb229, 0, none⟩ (.int .u32 a1)).setCell ⟨gb229, 1, none⟩ (.int .u32 a2)).setCell ⟨gb229, 2, none⟩ (.int .u32 a3)).setCell ⟨gb229, 3, none⟩ (.slice Ao41 y226.length co41)) = w46 at n0_ n1_ n2_ n3_ n4_ n5_ ⊢
              have HO0_1 := n0_
              have HO228 := n1_
              have BK220 := n2_
              have BK221 := n3_
              have BK229 := n4_
              have HB := n5_
              clear n0_ n1_ n2_ n3_ n4_ n5_
              have n0_ := Aside0.mk (Kd.V_drew HO0_1.out)
              have n1_ := Aside0.mk (Kd.R_drew HO228.out)
              have n2_ := Aside0.mk (blk_drew BK220.out)
              have n3_ := Aside0.mk (blk_drew BK221.out)
              have n4_ := Aside0.mk (blk_drew BK229.out)
              have n5_ := Aside0.mk (below_drew1 HB.out)
              clear HO0_1 HO228 BK220 BK221 BK229 HB
              have HO0_1 := n0_
              have HO228 := n1_
              have BK220 := n2_
              have BK221 := n3_
              have BK229 := n4_
              have HB := n5_
              clear n0_ n1_ n2_ n3_ n4_ n5_
              refine start_ (n := 9) (S := fun w' => w'.cell? ⟨gb220, 0, none⟩ = some (.int .i64 a0_0) ∧ w'.cell? ⟨gb220, 1, none⟩ = some (.slice A0_1 l0_1.length c0_1) ∧ w'.cell? ⟨gb229, 0, none⟩ = some (.int .u32 a1) ∧ w'.cell? ⟨gb229, 1, none⟩ = some (.int .u32 a2) ∧ w'.cell? ⟨gb229, 2, none⟩ = some (.int .u32 a3) ∧ w'.cell? ⟨gb229, 3, none⟩ = some (.slice Ao41 y226.length co41)) (ds := [8]) #[false, false, false, false, false, false, false, false, false] (by kernel_rfl) rfl rfl ⟨(blk_cell BK220.out 0).trans rfl, (blk_cell BK220.out 1).trans rfl, (blk_cell BK229.out 0).trans rfl, (blk_cell BK229.out 1).trans rfl, (blk_cell BK229.out 2).trans rfl, (blk_cell BK229.out 3).trans rfl⟩ (fun hHeld => ?_); refine with_tabW chamberlainref07_Seal.tab8 chamberlainref07_Seal.bits8 (fun HT_ HW_ => ?_)
              generalize w46.drew = w47 at HO0_1 HO228 BK220 BK221 BK229 HB hHeld ⊢
              refine pure_ (i := 1) (N := some 36) (v := ?_) (a' := ?_) #[false, true, false, false, false, false, false, false, false] rfl rfl (any_of HT_.out (by kernel_rfl)) (fun _ _ _ h => h) (Or.inl ⟨by rfl, ?_⟩) ?_ ?_
              rotate_left
              · intro w'
                go_simp
                with_reducible rfl
              rotate_left
              · simp only [Act.put, List.setIfInBounds_toArray, List.set_cons_zero, List.set_cons_succ, i64_w, i32_w]
                rfl
              refine take_ (i := 2) (N := some 37) (v := ?_) (a' := ?_) #[false, true, true, false, false, false, false, false, false] rfl rfl (take_ofW HT_.out HW_.out (by kernel_rfl)) (fun _ _ _ h => h) (Or.inl ⟨by rfl, ?_⟩) hHeld ?_ ?_
              rotate_left
              · rintro w' ⟨s0, s1, s2, s3, s4, s5⟩
                go_simp
                with_reducible rfl
              rotate_left
              · simp only [Act.put, List.setIfInBounds_toArray, List.set_cons_zero, List.set_cons_succ, i64_w, i32_w]
                rfl
              refine take_ (i := 4) (N := some 39) (v := ?_) (a' := ?_) #[false, true, true, false, true, false, false, false, false] rfl rfl (take_ofW HT_.out HW_.out (by kernel_rfl)) (fun _ _ _ h => h) (Or.inl ⟨by rfl, ?_⟩) hHeld ?_ ?_
              rotate_left
              · rintro w' ⟨s0, s1, s2, s3, s4, s5⟩
                go_simp
                with_reducible rfl
              rotate_left
              · simp only [Act.put, List.setIfInBounds_toArray, List.set_cons_zero, List.set_cons_succ, i64_w, i32_w]
                rfl
              refine join_ (σ := Value × Value × Value) 3 #[true, true, true, true, true, true, false, false, false] (fun s_ => [(35, s_.1), (38, s_.2.1), (40, s_.2.2)]) (fun s_ w' => (w'.cell? ⟨gb220, 0, none⟩ = some (.int .i64 a0_0) ∧ w'.cell? ⟨gb220, 1, none⟩ = some (.slice A0_1 l0_1.length c0_1) ∧ w'.cell? ⟨gb229, 0, none⟩ = some (.int .u32 a1) ∧ w'.cell? ⟨gb229, 1, none⟩ = some (.int .u32 a2) ∧ w'.cell? ⟨gb229, 2, none⟩ = some (.int .u32 a3) ∧ w'.cell? ⟨gb229, 3, none⟩ = some (.slice Ao41 y226.length co41)) ∧ (Kd.V k43 43 w' w.heap.size (fun k_ => (P0_1_ k_ ∨ w.heap.size ≤ k_) ∧ some k_ ≠ (s_.2.1 : Value).ownBlock ∧ some k_ ≠ (s_.2.2 : Value).ownBlock ∧ k_ ≠ gb220 ∧ k_ ≠ gb221 ∧ k_ ≠ gb229) (.slice A0_1 l0_1.length c0_1) l0_1) ∧ (Kd.N k43 43 w' w.heap.size (fun k_ => (P0_1_ k_ ∨ w.heap.size ≤ k_) ∧ some k_ ≠ (s_.2.2 : Value).ownBlock ∧ k_ ≠ gb220 ∧ k_ ≠ gb221 ∧ k_ ≠ gb229) s_.2.1 y233) ∧ (Kd.N k43 43 w' w.heap.size (fun k_ => (P0_1_ k_ ∨ w.heap.size ≤ k_) ∧ some k_ ≠ (s_.2.1 : Value).ownBlock ∧ k_ ≠ gb220 ∧ k_ ≠ gb221 ∧ k_ ≠ gb229) s_.2.2 y236) ∧ (w'.heap[gb220]? = some (.cells #[.int .i64 a0_0, .slice A0_1 l0_1.length c0_1] 24 (0, 0))) ∧ (w'.heap[gb221]? = some (.cells #[.int .i64 0, .slice none 0 0] 24 (0, 0))) ∧ (w'.heap[gb229]? = some (.cells #[.int .u32 a1, .int .u32 a2, .int .u32 a3, .slice Ao41 y226.length co41] 43 (0, 0))) ∧ (Below w.heap.size w w')) ?_ ?_
              rotate_left
              · intro hCont
                refine two_ (i := 0) (j := 5) (Ni := some 35) (Nj := some 40) #[true, true, true, false, true, false, false, false, false] #[false, true, true, false, true, true, false, false, false] rfl rfl rfl rfl (two_of HT_.out (by kernel_rfl)) (by decide) (by decide) (fun K hK => ?_) (fun K hK => ?_)
                · skip
                  refine Kd.N_lit_step k43 _ 43 ?hg (N' := 35) ?hd (xs := ([] : List (S43))) (inner := []) (ok := (fun k_ => (P0_1_ k_ ∨ w.heap.size ≤ k_) ∧ some k_ ≠ (.slice Ao41 y226.length co41 : Value).ownBlock ∧ k_ ≠ gb220 ∧ k_ ≠ gb221 ∧ k_ ≠ gb229)) (okp := (fun k_ => (P0_1_ k_ ∨ w.heap.size ≤ k_) ∧ some k_ ≠ (.slice Ao41 y226.length co41 : Value).ownBlock ∧ k_ ≠ gb220 ∧ k_ ≠ gb221 ∧ k_ ≠ gb229)) ?hr ?hp (fun _ hk => hk) ((show ∀ k_, w47.heap.size ≤ k_ → (fun k_ => (P0_1_ k_ ∨ w.heap.size ≤ k_) ∧ some k_ ≠ (.slice Ao41 y226.length co41 : Value).ownBlock ∧ k_ ≠ gb220 ∧ k_ ≠ gb221 ∧ k_ ≠ gb229) k_ from fun k_ hk => ⟨(.inr (Nat.le_trans (below_size (by repeat (first | (with_reducible first | exact HB.out | apply below_alloc | apply pw_below_drewN | apply below_drew1 | refine below_set ?_ GE220.out | refine below_set ?_ GE221.out | refine below_set ?_ GE229.out) | exact HB.out))) hk)), Kd.fresh' (Kd.R_lt (by (with_reducible repeat (first | apply Kd.R_alloc | apply Kd.R_drewN | apply Kd.R_drew)); exact HO228.out)) k_ hk, fb_ BK220.out k_ hk, fb_ BK221.out k_ hk, fb_ BK229.out k_ hk⟩) _ (Nat.le_refl _)) (Below.refl _ _) (Nat.le_refl _) (by simp) ?_; (case hd => rfl); (case hg => rfl); (case hr => first | (go_simp; done) | (go_simp; rfl)); (case hp => exact (Reps.none _ _))
                  intro v231 w48 ho49 hb hg_ hnew_
                  clear hg_ hnew_
                  (first | rw [← Ny230.out] at ho49 | (simp only [Int.reduceToNat] at ho49; rw [← Ny230.out] at ho49))
                  have n0_ := Aside0.mk (vf_ HO0_1.out (Kd.N_base ho49) hb)
                  have n1_ := Aside0.mk (rb_ HO228.out hb)
                  have n2_ := Aside0.mk (Kd.N_lower ho49 (below_size (by repeat (first | (with_reducible first | exact HB.out | apply below_alloc | apply pw_below_drewN | apply below_drew1 | refine below_set ?_ GE220.out | refine below_set ?_ GE221.out | refine below_set ?_ GE229.out) | exact HB.out))))
                  have n3_ := Aside0.mk (bb_ BK220.out hb)
                  have n4_ := Aside0.mk (bb_ BK221.out hb)
                  have n5_ := Aside0.mk (bb_ BK229.out hb)
                  have n6_ := Aside0.mk (bs_ hb)
                  clear HO0_1 HO228 BK220 BK221 BK229 HB
                  have HO0_1 := n0_
                  have HO228 := n1_
                  have HO232 := n2_
                  have BK220 := n3_
                  have BK221 := n4_
                  have BK229 := n5_
                  have HB := n6_
                  clear n0_ n1_ n2_ n3_ n4_ n5_ n6_
                  clear hb ho49
                  refine hK.out _ _ ⟨(blk_cell BK220.out 0).trans rfl, (blk_cell BK220.out 1).trans rfl, (blk_cell BK229.out 0).trans rfl, (blk_cell BK229.out 1).trans rfl, (blk_cell BK229.out 2).trans rfl, (blk_cell BK229.out 3).trans rfl⟩ (fun hHeld => ?_)
                  clear hK K
                  refine norm_ (a' := ?_) ?_ ?_
                  rotate_left
                  · show Act.put _ (some 35) _ = _
                    simp only [Act.put, List.setIfInBounds_toArray, List.set_cons_zero, List.set_cons_succ, i64_w, i32_w]
                    rfl
                  refine two_ (i := 3) (j := 5) (Ni := some 38) (Nj := some 40) #[true, true, true, true, true, false, false, false, false] #[true, true, true, false, true, true, false, false, false] rfl rfl rfl rfl (two_of HT_.out (by kernel_rfl)) (by decide) (by decide) (fun K hK => ?_) (fun K hK => ?_)
                  · skip
                    refine Kd.N_append_rows_step k43 (w0 := w) w.heap.size (by rfl) (.tmp 35) (.tmp 37) 22 43 (.agg #[(.int .u32 0), (.int .u32 0), (.int .u32 0), (.slice none 0 0)]) 40 rfl Try.underlying22 info43 rfl (by decide) (by omega) v231 y230 l0_1 _ _ _ (fun k_ => (P0_1_ k_ ∨ w.heap.size ≤ k_) ∧ some k_ ≠ (.slice Ao41 y226.length co41 : Value).ownBlock ∧ k_ ≠ gb220 ∧ k_ ≠ gb221 ∧ k_ ≠ gb229) (fun k_ => ((fun k_ => (P0_1_ k_ ∨ w.heap.size ≤ k_) ∧ some k_ ≠ (.slice Ao41 y226.length co41 : Value).ownBlock ∧ k_ ≠ gb220 ∧ k_ ≠ gb221 ∧ k_ ≠ gb229)) k_ ∧ some k_ ≠ (v231 : Value).ownBlock) rfl rfl ?aO ?aR (fun _ hk => hk) ?aF ?aB ?aS ?aL ?_
                    (case aR => exact (by skip; exact Kd.V_F (Kd.V_mono (ok' := (fun k_ => ((fun k_ => (P0_1_ k_ ∨ w.heap.size ≤ k_) ∧ some k_ ≠ (.slice Ao41 y226.length co41 : Value).ownBlock ∧ k_ ≠ gb220 ∧ k_ ≠ gb221 ∧ k_ ≠ gb229)) k_ ∧ some k_ ≠ (v231 : Value).ownBlock)) (HO0_1.out) (fun k_ hk => ⟨⟨hk.1.1, ⟨hk.1.2.1, ⟨hk.1.2.2.1, ⟨hk.1.2.2.2.1, hk.1.2.2.2.2⟩⟩⟩⟩, hk.2⟩))))
                    (case aB => exact (by repeat (first | (with_reducible first | exact HB.out | apply below_alloc | apply pw_below_drewN | apply below_drew1 | refine below_set ?_ GE220.out | refine below_set ?_ GE221.out | refine below_set ?_ GE229.out) | exact HB.out)))
                    (case aF => exact (fun k_ hk => ⟨(.inr (Nat.le_trans (below_size (by repeat (first | (with_reducible first | exact HB.out | apply below_alloc | apply pw_below_drewN | apply below_drew1 | refine below_set ?_ GE220.out | refine below_set ?_ GE221.out | refine below_set ?_ GE229.out) | exact HB.out))) hk)), Kd.fresh' (Kd.R_lt (by (with_reducible repeat (first | apply Kd.R_alloc | apply Kd.R_drewN | apply Kd.R_drew)); exact HO228.out)) k_ hk, fb_ BK220.out k_ hk, fb_ BK221.out k_ hk, fb_ BK229.out k_ hk⟩))
                    (case aO => exact (by (with_reducible repeat (first | apply Kd.N_alloc | apply Kd.N_drewN | apply Kd.N_drew)); exact HO232.out))
                    (case aS => exact (below_size (by repeat (first | (with_reducible first | exact HB.out | apply below_alloc | apply pw_below_drewN | apply below_drew1 | refine below_set ?_ GE220.out | refine below_set ?_ GE221.out | refine below_set ?_ GE229.out) | exact HB.out))))
                    (case aL => have := LMc30.out; omega)
                    intro v234 w50 ho hb hg hat
                    rw [← Ny233.out] at ho
                    have n0_ := Aside0.mk (Kd.V_afterv (ok := (fun k_ => (P0_1_ k_ ∨ w.heap.size ≤ k_) ∧ some k_ ≠ (.slice Ao41 y226.length co41 : Value).ownBlock ∧ k_ ≠ gb220 ∧ k_ ≠ gb221 ∧ k_ ≠ gb229)) (by (with_reducible repeat (first | apply Kd.V_alloc | apply Kd.V_drewN | apply Kd.V_drew)); exact HO0_1.out) hg hat)
                    have n1_ := Aside0.mk (blk_grown (g := gb220) (o := .cells #[.int .i64 a0_0, .slice A0_1 l0_1.length c0_1] 24 (0, 0)) (by (with_reducible repeat (first | refine blk_drewN ?_ _ | refine blk_drew ?_ | refine blk_alloc ?_ _)); exact BK220.out) hg (Kd.N_ne HO232.out BK220.out (by decide)))
                    have n2_ := Aside0.mk (blk_grown (g := gb221) (o := .cells #[.int .i64 0, .slice none 0 0] 24 (0, 0)) (by (with_reducible repeat (first | refine blk_drewN ?_ _ | refine blk_drew ?_ | refine blk_alloc ?_ _)); exact BK221.out) hg (Kd.N_ne HO232.out BK221.out (by decide)))
                    have n3_ := Aside0.mk (Kd.R_over' (by (with_reducible repeat (first | apply Kd.R_alloc | apply Kd.R_drewN | apply Kd.R_drew)); exact HO228.out) (Kd.N_typed (by (with_reducible repeat (first | apply Kd.N_alloc | apply Kd.N_drewN | apply Kd.N_drew)); exact HO232.out)) (by decide) hg)
                    have n4_ := Aside0.mk (blk_grown (g := gb229) (o := .cells #[.int .u32 a1, .int .u32 a2, .int .u32 a3, .slice Ao41 y226.length co41] 43 (0, 0)) (by (with_reducible repeat (first | refine blk_drewN ?_ _ | refine blk_drew ?_ | refine blk_alloc ?_ _)); exact BK229.out) hg (Kd.N_away HO232.out (fun _ hk => hk.2.2.2.2)))
                    have n5_ := Aside0.mk (hb)
                    have n6_ := Aside0.mk (ho)
                    clear HO0_1 BK220 BK221 HO228 BK229 HB HO232
                    have HO0_1 := n0_
                    have BK220 := n1_
                    have BK221 := n2_
                    have HO228 := n3_
                    have BK229 := n4_
                    have HB := n5_
                    have HO235 := n6_
                    clear n0_ n1_ n2_ n3_ n4_ n5_ n6_
                    clear ho hb hg hat
                    refine hK.out _ _ ⟨(blk_cell BK220.out 0).trans rfl, (blk_cell BK220.out 1).trans rfl, (blk_cell BK229.out 0).trans rfl, (blk_cell BK229.out 1).trans rfl, (blk_cell BK229.out 2).trans rfl, (blk_cell BK229.out 3).trans rfl⟩ (fun hHeld => ?_)
                    clear hK K
                    refine norm_ (a' := ?_) ?_ ?_
                    rotate_left
                    · show Act.put _ (some 38) _ = _
                      simp only [Act.put, List.setIfInBounds_toArray, List.set_cons_zero, List.set_cons_succ, i64_w, i32_w]
                      rfl
                    refine one_ (i := 5) (N := some 40) #[true, true, true, true, true, true, false, false, false] rfl rfl (one_of HT_.out (by kernel_rfl)) (by decide) (fun K hK => ?_)
                    refine Kd.N_lit_step k43 _ 43 ?hg (N' := 40) ?hd (xs := ([(⟨a1, a2, a3, y226⟩ : S43)] : List (S43))) (inner := [.int .u32 a1, .int .u32 a2, .int .u32 a3, .slice Ao41 y226.length co41]) (ok := (fun k_ => (P0_1_ k_ ∨ w.heap.size ≤ k_) ∧ some k_ ≠ (v234 : Value).ownBlock ∧ k_ ≠ gb220 ∧ k_ ≠ gb221 ∧ k_ ≠ gb229)) (okp := (fun k_ => (P0_1_ k_ ∨ w.heap.size ≤ k_) ∧ some k_ ≠ (v234 : Value).ownBlock ∧ k_ ≠ gb220 ∧ k_ ≠ gb221 ∧ k_ ≠ gb229)) ?hr ?hp (fun _ hk => hk) ((show ∀ k_, w50.heap.size ≤ k_ → (fun k_ => (P0_1_ k_ ∨ w.heap.size ≤ k_) ∧ some k_ ≠ (v234 : Value).ownBlock ∧ k_ ≠ gb220 ∧ k_ ≠ gb221 ∧ k_ ≠ gb229) k_ from fun k_ hk => ⟨(.inr (Nat.le_trans (below_size (by repeat (first | (with_reducible first | exact HB.out | apply below_alloc | apply pw_below_drewN | apply below_drew1 | refine below_set ?_ GE220.out | refine below_set ?_ GE221.out | refine below_set ?_ GE229.out) | exact HB.out))) hk)), Kd.fresh' (Kd.N_lt (by (with_reducible repeat (first | apply Kd.N_alloc | apply Kd.N_drewN | apply Kd.N_drew)); exact HO235.out)) k_ hk, fb_ BK220.out k_ hk, fb_ BK221.out k_ hk, fb_ BK229.out k_ hk⟩) _ (Nat.le_refl _)) (Below.refl _ _) (Nat.le_refl _) (by simp) ?_; (case hd => rfl); (case hg => rfl); (case hr => first | (go_simp; done) | (go_simp; rfl)); (case hp => exact (Reps.c4 (show Kd.FK k43 _ _ (⟨a1, a2, a3, y226⟩ : S43) [.int .u32 a1, .int .u32 a2, .int .u32 a3, .slice Ao41 y226.length co41] from (k43_mkF _ _ (⟨a1, a2, a3, y226⟩ : S43) (Kd.R_reads' (Kd.R_mono (ok' := (fun k_ => (P0_1_ k_ ∨ w.heap.size ≤ k_) ∧ some k_ ≠ (v234 : Value).ownBlock ∧ k_ ≠ gb220 ∧ k_ ≠ gb221 ∧ k_ ≠ gb229)) (Kd.R_types (Kd.R_types (Kd.R_types (Kd.R_apart' (HO228.out) (Kd.N_typed HO235.out) (by decide)) BK220.out (by decide)) BK221.out (by decide)) BK229.out (by decide)) (fun k_ hk => ⟨(.inr (hk.1.1.1.1)), ⟨hk.1.1.1.2, ⟨hk.1.1.2, ⟨hk.1.2, hk.2⟩⟩⟩⟩))).2.1 (Kd.R_F (Kd.R_mono (ok' := (fun k_ => (P0_1_ k_ ∨ w.heap.size ≤ k_) ∧ some k_ ≠ (v234 : Value).ownBlock ∧ k_ ≠ gb220 ∧ k_ ≠ gb221 ∧ k_ ≠ gb229)) (Kd.R_types (Kd.R_types (Kd.R_types (Kd.R_apart' (HO228.out) (Kd.N_typed HO235.out) (by decide)) BK220.out (by decide)) BK221.out (by decide)) BK229.out (by decide)) (fun k_ hk => ⟨(.inr (hk.1.1.1.1)), ⟨hk.1.1.1.2, ⟨hk.1.1.2, ⟨hk.1.2, hk.2⟩⟩⟩⟩))))) (Reps.none _ _)))
                    intro v237 w51 ho52 hb hg_ hnew_
                    clear hg_ hnew_
                    (first | rw [← Ny236.out] at ho52 | (simp only [Int.reduceToNat] at ho52; rw [← Ny236.out] at ho52))
                    have n0_ := Aside0.mk (vf_ HO0_1.out (Kd.N_base ho52) hb)
                    have n1_ := Aside0.mk (nf_ HO235.out (Kd.N_base ho52) hb)
                    have n2_ := Aside0.mk (Kd.N_lower ho52 (below_size (by repeat (first | (with_reducible first | exact HB.out | apply below_alloc | apply pw_below_drewN | apply below_drew1 | refine below_set ?_ GE220.out | refine below_set ?_ GE221.out | refine below_set ?_ GE229.out) | exact HB.out))))
                    have n3_ := Aside0.mk (bb_ BK220.out hb)
                    have n4_ := Aside0.mk (bb_ BK221.out hb)
                    have n5_ := Aside0.mk (bb_ BK229.out hb)
                    have n6_ := Aside0.mk (bs_ hb)
                    clear HO0_1 HO235 BK220 BK221 BK229 HB HO228
                    have HO0_1 := n0_
                    have HO235 := n1_
                    have HO238 := n2_
                    have BK220 := n3_
                    have BK221 := n4_
                    have BK229 := n5_
                    have HB := n6_
                    clear n0_ n1_ n2_ n3_ n4_ n5_ n6_
                    clear hb ho52
                    refine hK.out _ _ ⟨(blk_cell BK220.out 0).trans rfl, (blk_cell BK220.out 1).trans rfl, (blk_cell BK229.out 0).trans rfl, (blk_cell BK229.out 1).trans rfl, (blk_cell BK229.out 2).trans rfl, (blk_cell BK229.out 3).trans rfl⟩ (fun hHeld => ?_)
                    clear hK K
                    refine norm_ (a' := ?_) ?_ ?_
                    rotate_left
                    · show Act.put _ (some 40) _ = _
                      simp only [Act.put, List.setIfInBounds_toArray, List.set_cons_zero, List.set_cons_succ, i64_w, i32_w]
                      rfl
                    exact norm_ (by simp only [putAll, Act.put, List.setIfInBounds_toArray, List.set_cons_zero, List.set_cons_succ]) (hCont (v231, v234, v237) _ ⟨hHeld, (by (with_reducible repeat (first | apply Kd.V_alloc | apply Kd.V_drewN | apply Kd.V_drew)); exact Kd.V_mono HO0_1.out (fun _ hk => ⟨hk.1.1.1, ⟨hk.1.2, ⟨hk.2, ⟨hk.1.1.2.2.1, ⟨hk.1.1.2.2.2.1, hk.1.1.2.2.2.2⟩⟩⟩⟩⟩)), (by (with_reducible repeat (first | apply Kd.N_alloc | apply Kd.N_drewN | apply Kd.N_drew)); exact Kd.N_mono HO235.out (fun _ hk => ⟨hk.1.1, ⟨hk.2, ⟨hk.1.2.2.1, ⟨hk.1.2.2.2.1, hk.1.2.2.2.2⟩⟩⟩⟩)), (by (with_reducible repeat (first | apply Kd.N_alloc | apply Kd.N_drewN | apply Kd.N_drew)); exact HO238.out), (by (with_reducible repeat (first | refine blk_drewN ?_ _ | refine blk_drew ?_ | refine blk_alloc ?_ _)); exact BK220.out), (by (with_reducible repeat (first | refine blk_drewN ?_ _ | refine blk_drew ?_ | refine blk_alloc ?_ _)); exact BK221.out), (by (with_reducible repeat (first | refine blk_drewN ?_ _ | refine blk_drew ?_ | refine blk_alloc ?_ _)); exact BK229.out), (by repeat (first | (with_reducible first | exact HB.out | apply below_alloc | apply pw_below_drewN | apply below_drew1 | refine below_set ?_ GE220.out | refine below_set ?_ GE221.out | refine below_set ?_ GE229.out) | exact HB.out))⟩)
                  · skip
                    refine Kd.N_lit_step k43 _ 43 ?hg (N' := 40) ?hd (xs := ([(⟨a1, a2, a3, y226⟩ : S43)] : List (S43))) (inner := [.int .u32 a1, .int .u32 a2, .int .u32 a3, .slice Ao41 y226.length co41]) (ok := (fun k_ => (P0_1_ k_ ∨ w.heap.size ≤ k_) ∧ some k_ ≠ (v231 : Value).ownBlock ∧ k_ ≠ gb220 ∧ k_ ≠ gb221 ∧ k_ ≠ gb229)) (okp := (fun k_ => (P0_1_ k_ ∨ w.heap.size ≤ k_) ∧ some k_ ≠ (v231 : Value).ownBlock ∧ k_ ≠ gb220 ∧ k_ ≠ gb221 ∧ k_ ≠ gb229)) ?hr ?hp (fun _ hk => hk) ((show ∀ k_, w48.heap.size ≤ k_ → (fun k_ => (P0_1_ k_ ∨ w.heap.size ≤ k_) ∧ some k_ ≠ (v231 : Value).ownBlock ∧ k_ ≠ gb220 ∧ k_ ≠ gb221 ∧ k_ ≠ gb229) k_ from fun k_ hk => ⟨(.inr (Nat.le_trans (below_size (by repeat (first | (with_reducible first | exact HB.out | apply below_alloc | apply pw_below_drewN | apply below_drew1 | refine below_set ?_ GE220.out | refine below_set ?_ GE221.out | refine below_set ?_ GE229.out) | exact HB.out))) hk)), Kd.fresh' (Kd.N_lt (by (with_reducible repeat (first | apply Kd.N_alloc | apply Kd.N_drewN | apply Kd.N_drew)); exact HO232.out)) k_ hk, fb_ BK220.out k_ hk, fb_ BK221.out k_ hk, fb_ BK229.out k_ hk⟩) _ (Nat.le_refl _)) (Below.refl _ _) (Nat.le_refl _) (by simp) ?_; (case hd => rfl); (case hg => rfl); (case hr => first | (go_simp; done) | (go_simp; rfl)); (case hp => exact (Reps.c4 (show Kd.FK k43 _ _ (⟨a1, a2, a3, y226⟩ : S43) [.int .u32 a1, .int .u32 a2, .int .u32 a3, .slice Ao41 y226.length co41] from (k43_mkF _ _ (⟨a1, a2, a3, y226⟩ : S43) (Kd.R_reads' (Kd.R_mono (ok' := (fun k_ => (P0_1_ k_ ∨ w.heap.size ≤ k_) ∧ some k_ ≠ (v231 : Value).ownBlock ∧ k_ ≠ gb220 ∧ k_ ≠ gb221 ∧ k_ ≠ gb229)) (Kd.R_types (Kd.R_types (Kd.R_types (Kd.R_apart' (HO228.out) (Kd.N_typed HO232.out) (by decide)) BK220.out (by decide)) BK221.out (by decide)) BK229.out (by decide)) (fun k_ hk => ⟨(.inr (hk.1.1.1.1)), ⟨hk.1.1.1.2, ⟨hk.1.1.2, ⟨hk.1.2, hk.2⟩⟩⟩⟩))).2.1 (Kd.R_F (Kd.R_mono (ok' := (fun k_ => (P0_1_ k_ ∨ w.heap.size ≤ k_) ∧ some k_ ≠ (v231 : Value).ownBlock ∧ k_ ≠ gb220 ∧ k_ ≠ gb221 ∧ k_ ≠ gb229)) (Kd.R_types (Kd.R_types (Kd.R_types (Kd.R_apart' (HO228.out) (Kd.N_typed HO232.out) (by decide)) BK220.out (by decide)) BK221.out (by decide)) BK229.out (by decide)) (fun k_ hk => ⟨(.inr (hk.1.1.1.1)), ⟨hk.1.1.1.2, ⟨hk.1.1.2, ⟨hk.1.2, hk.2⟩⟩⟩⟩))))) (Reps.none _ _)))
                    intro v237 w50 ho51 hb hg_ hnew_
                    clear hg_ hnew_
                    (first | rw [← Ny236.out] at ho51 | (simp only [Int.reduceToNat] at ho51; rw [← Ny236.out] at ho51))
                    have n0_ := Aside0.mk (vf_ HO0_1.out (Kd.N_base ho51) hb)
                    have n1_ := Aside0.mk (nf_ HO232.out (Kd.N_base ho51) hb)
                    have n2_ := Aside0.mk (Kd.N_lower ho51 (below_size (by repeat (first | (with_reducible first | exact HB.out | apply below_alloc | apply pw_below_drewN | apply below_drew1 | refine below_set ?_ GE220.out | refine below_set ?_ GE221.out | refine below_set ?_ GE229.out) | exact HB.out))))
                    have n3_ := Aside0.mk (bb_ BK220.out hb)
                    have n4_ := Aside0.mk (bb_ BK221.out hb)
                    have n5_ := Aside0.mk (bb_ BK229.out hb)
                    have n6_ := Aside0.mk (bs_ hb)
                    clear HO0_1 HO232 BK220 BK221 BK229 HB HO228
                    have HO0_1 := n0_
                    have HO232 := n1_
                    have HO238 := n2_
                    have BK220 := n3_
                    have BK221 := n4_
                    have BK229 := n5_
                    have HB := n6_
                    clear n0_ n1_ n2_ n3_ n4_ n5_ n6_
                    clear hb ho51
                    refine hK.out _ _ ⟨(blk_cell BK220.out 0).trans rfl, (blk_cell BK220.out 1).trans rfl, (blk_cell BK229.out 0).trans rfl, (blk_cell BK229.out 1).trans rfl, (blk_cell BK229.out 2).trans rfl, (blk_cell BK229.out 3).trans rfl⟩ (fun hHeld => ?_)
                    clear hK K
                    refine norm_ (a' := ?_) ?_ ?_
                    rotate_left
                    · show Act.put _ (some 40) _ = _
                      simp only [Act.put, List.setIfInBounds_toArray, List.set_cons_zero, List.set_cons_succ, i64_w, i32_w]
                      rfl
                    refine one_ (i := 3) (N := some 38) #[true, true, true, true, true, true, false, false, false] rfl rfl (one_of HT_.out (by kernel_rfl)) (by decide) (fun K hK => ?_)
                    refine Kd.N_append_rows_step k43 (w0 := w) w.heap.size (by rfl) (.tmp 35) (.tmp 37) 22 43 (.agg #[(.int .u32 0), (.int .u32 0), (.int .u32 0), (.slice none 0 0)]) 40 rfl Try.underlying22 info43 rfl (by decide) (by omega) v231 y230 l0_1 _ _ _ (fun k_ => (P0_1_ k_ ∨ w.heap.size ≤ k_) ∧ some k_ ≠ (v237 : Value).ownBlock ∧ k_ ≠ gb220 ∧ k_ ≠ gb221 ∧ k_ ≠ gb229) (fun k_ => ((fun k_ => (P0_1_ k_ ∨ w.heap.size ≤ k_) ∧ some k_ ≠ (v237 : Value).ownBlock ∧ k_ ≠ gb220 ∧ k_ ≠ gb221 ∧ k_ ≠ gb229)) k_ ∧ some k_ ≠ (v231 : Value).ownBlock) rfl rfl ?aO ?aR (fun _ hk => hk) ?aF ?aB ?aS ?aL ?_
                    (case aR => exact (by skip; exact Kd.V_F (Kd.V_mono (ok' := (fun k_ => ((fun k_ => (P0_1_ k_ ∨ w.heap.size ≤ k_) ∧ some k_ ≠ (v237 : Value).ownBlock ∧ k_ ≠ gb220 ∧ k_ ≠ gb221 ∧ k_ ≠ gb229)) k_ ∧ some k_ ≠ (v231 : Value).ownBlock)) (HO0_1.out) (fun k_ hk => ⟨⟨hk.1.1.1, ⟨hk.2, ⟨hk.1.1.2.2.1, ⟨hk.1.1.2.2.2.1, hk.1.1.2.2.2.2⟩⟩⟩⟩, hk.1.2⟩))))
                    (case aB => exact (by repeat (first | (with_reducible first | exact HB.out | apply below_alloc | apply pw_below_drewN | apply below_drew1 | refine below_set ?_ GE220.out | refine below_set ?_ GE221.out | refine below_set ?_ GE229.out) | exact HB.out)))
                    (case aF => exact (fun k_ hk => ⟨(.inr (Nat.le_trans (below_size (by repeat (first | (with_reducible first | exact HB.out | apply below_alloc | apply pw_below_drewN | apply below_drew1 | refine below_set ?_ GE220.out | refine below_set ?_ GE221.out | refine below_set ?_ GE229.out) | exact HB.out))) hk)), Kd.fresh' (Kd.N_lt (by (with_reducible repeat (first | apply Kd.N_alloc | apply Kd.N_drewN | apply Kd.N_drew)); exact HO238.out)) k_ hk, fb_ BK220.out k_ hk, fb_ BK221.out k_ hk, fb_ BK229.out k_ hk⟩))
                    (case aO => exact (by (with_reducible repeat (first | apply Kd.N_alloc | apply Kd.N_drewN | apply Kd.N_drew)); exact Kd.N_mono HO232.out (fun _ hk => ⟨hk.1.1, ⟨hk.2, ⟨hk.1.2.2.1, ⟨hk.1.2.2.2.1, hk.1.2.2.2.2⟩⟩⟩⟩)))
                    (case aS => exact (below_size (by repeat (first | (with_reducible first | exact HB.out | apply below_alloc | apply pw_below_drewN | apply below_drew1 | refine below_set ?_ GE220.out | refine below_set ?_ GE221.out | refine below_set ?_ GE229.out) | exact HB.out))))
                    (case aL => have := LMc30.out; omega)
                    intro v234 w52 ho hb hg hat
                    rw [← Ny233.out] at ho
                    have n0_ := Aside0.mk (Kd.V_afterv (ok := (fun k_ => (P0_1_ k_ ∨ w.heap.size ≤ k_) ∧ some k_ ≠ (v237 : Value).ownBlock ∧ k_ ≠ gb220 ∧ k_ ≠ gb221 ∧ k_ ≠ gb229)) (by (with_reducible repeat (first | apply Kd.V_alloc | apply Kd.V_drewN | apply Kd.V_drew)); exact Kd.V_mono HO0_1.out (fun _ hk => ⟨⟨hk.1.1.1, ⟨hk.2, ⟨hk.1.1.2.2.1, ⟨hk.1.1.2.2.2.1, hk.1.1.2.2.2.2⟩⟩⟩⟩, hk.1.2⟩)) hg hat)
                    have n1_ := Aside0.mk (blk_grown (g := gb220) (o := .cells #[.int .i64 a0_0, .slice A0_1 l0_1.length c0_1] 24 (0, 0)) (by (with_reducible repeat (first | refine blk_drewN ?_ _ | refine blk_drew ?_ | refine blk_alloc ?_ _)); exact BK220.out) hg (Kd.N_ne HO232.out BK220.out (by decide)))
                    have n2_ := Aside0.mk (blk_grown (g := gb221) (o := .cells #[.int .i64 0, .slice none 0 0] 24 (0, 0)) (by (with_reducible repeat (first | refine blk_drewN ?_ _ | refine blk_drew ?_ | refine blk_alloc ?_ _)); exact BK221.out) hg (Kd.N_ne HO232.out BK221.out (by decide)))
                    have n3_ := Aside0.mk (blk_grown (g := gb229) (o := .cells #[.int .u32 a1, .int .u32 a2, .int .u32 a3, .slice Ao41 y226.length co41] 43 (0, 0)) (by (with_reducible repeat (first | refine blk_drewN ?_ _ | refine blk_drew ?_ | refine blk_alloc ?_ _)); exact BK229.out) hg (Kd.N_away HO232.out (fun _ hk => hk.1.2.2.2.2)))
                    have n4_ := Aside0.mk (Kd.N_afterv (ok := (fun k_ => (P0_1_ k_ ∨ w.heap.size ≤ k_) ∧ k_ ≠ gb220 ∧ k_ ≠ gb221 ∧ k_ ≠ gb229)) (by (with_reducible repeat (first | apply Kd.N_alloc | apply Kd.N_drewN | apply Kd.N_drew)); exact Kd.N_mono HO238.out (fun _ hk => ⟨⟨hk.1, ⟨hk.2.2.1, ⟨hk.2.2.2.1, hk.2.2.2.2⟩⟩⟩, hk.2.1⟩)) hg hat)
                    have n5_ := Aside0.mk (hb)
                    have n6_ := Aside0.mk (ho)
                    clear HO0_1 BK220 BK221 BK229 HO238 HB HO232
                    have HO0_1 := n0_
                    have BK220 := n1_
                    have BK221 := n2_
                    have BK229 := n3_
                    have HO238 := n4_
                    have HB := n5_
                    have HO235 := n6_
                    clear n0_ n1_ n2_ n3_ n4_ n5_ n6_
                    clear ho hb hg hat
                    refine hK.out _ _ ⟨(blk_cell BK220.out 0).trans rfl, (blk_cell BK220.out 1).trans rfl, (blk_cell BK229.out 0).trans rfl, (blk_cell BK229.out 1).trans rfl, (blk_cell BK229.out 2).trans rfl, (blk_cell BK229.out 3).trans rfl⟩ (fun hHeld => ?_)
                    clear hK K
                    refine norm_ (a' := ?_) ?_ ?_
                    rotate_left
                    · show Act.put _ (some 38) _ = _
                      simp only [Act.put, List.setIfInBounds_toArray, List.set_cons_zero, List.set_cons_succ, i64_w, i32_w]
                      rfl
                    exact norm_ (by simp only [putAll, Act.put, List.setIfInBounds_toArray, List.set_cons_zero, List.set_cons_succ]) (hCont (v231, v234, v237) _ ⟨hHeld, (by (with_reducible repeat (first | apply Kd.V_alloc | apply Kd.V_drewN | apply Kd.V_drew)); exact Kd.V_mono HO0_1.out (fun _ hk => ⟨hk.1.1, ⟨hk.2, ⟨hk.1.2.1, ⟨hk.1.2.2.1, ⟨hk.1.2.2.2.1, hk.1.2.2.2.2⟩⟩⟩⟩⟩)), (by (with_reducible repeat (first | apply Kd.N_alloc | apply Kd.N_drewN | apply Kd.N_drew)); exact HO235.out), (by (with_reducible repeat (first | apply Kd.N_alloc | apply Kd.N_drewN | apply Kd.N_drew)); exact Kd.N_mono HO238.out (fun _ hk => ⟨hk.1.1, ⟨hk.2, ⟨hk.1.2.1, ⟨hk.1.2.2.1, hk.1.2.2.2⟩⟩⟩⟩)), (by (with_reducible repeat (first | refine blk_drewN ?_ _ | refine blk_drew ?_ | refine blk_alloc ?_ _)); exact BK220.out), (by (with_reducible repeat (first | refine blk_drewN ?_ _ | refine blk_drew ?_ | refine blk_alloc ?_ _)); exact BK221.out), (by (with_reducible repeat (first | refine blk_drewN ?_ _ | refine blk_drew ?_ | refine blk_alloc ?_ _)); exact BK229.out), (by repeat (first | (with_reducible first | exact HB.out | apply below_alloc | apply pw_below_drewN | apply below_drew1 | refine below_set ?_ GE220.out | refine below_set ?_ GE221.out | refine below_set ?_ GE229.out) | exact HB.out))⟩)
                · skip
                  refine Kd.N_lit_step k43 _ 43 ?hg (N' := 40) ?hd (xs := ([(⟨a1, a2, a3, y226⟩ : S43)] : List (S43))) (inner := [.int .u32 a1, .int .u32 a2, .int .u32 a3, .slice Ao41 y226.length co41]) (ok := (fun k_ => (P0_1_ k_ ∨ w.heap.size ≤ k_) ∧ k_ ≠ gb220 ∧ k_ ≠ gb221 ∧ k_ ≠ gb229)) (okp := (fun k_ => (P0_1_ k_ ∨ w.heap.size ≤ k_) ∧ k_ ≠ gb220 ∧ k_ ≠ gb221 ∧ k_ ≠ gb229)) ?hr ?hp (fun _ hk => hk) ((show ∀ k_, w47.heap.size ≤ k_ → (fun k_ => (P0_1_ k_ ∨ w.heap.size ≤ k_) ∧ k_ ≠ gb220 ∧ k_ ≠ gb221 ∧ k_ ≠ gb229) k_ from fun k_ hk => ⟨(.inr (Nat.le_trans (below_size (by repeat (first | (with_reducible first | exact HB.out | apply below_alloc | apply pw_below_drewN | apply below_drew1 | refine below_set ?_ GE220.out | refine below_set ?_ GE221.out | refine below_set ?_ GE229.out) | exact HB.out))) hk)), fb_ BK220.out k_ hk, fb_ BK221.out k_ hk, fb_ BK229.out k_ hk⟩) _ (Nat.le_refl _)) (Below.refl _ _) (Nat.le_refl _) (by simp) ?_; (case hd => rfl); (case hg => rfl); (case hr => first | (go_simp; done) | (go_simp; rfl)); (case hp => exact (Reps.c4 (show Kd.FK k43 _ _ (⟨a1, a2, a3, y226⟩ : S43) [.int .u32 a1, .int .u32 a2, .int .u32 a3, .slice Ao41 y226.length co41] from (k43_mkF _ _ (⟨a1, a2, a3, y226⟩ : S43) (Kd.R_reads' (Kd.R_mono (ok' := (fun k_ => (P0_1_ k_ ∨ w.heap.size ≤ k_) ∧ k_ ≠ gb220 ∧ k_ ≠ gb221 ∧ k_ ≠ gb229)) (Kd.R_types (Kd.R_types (Kd.R_types (HO228.out) BK220.out (by decide)) BK221.out (by decide)) BK229.out (by decide)) (fun k_ hk => ⟨(.inr (hk.1.1.1)), ⟨hk.1.1.2, ⟨hk.1.2, hk.2⟩⟩⟩))).2.1 (Kd.R_F (Kd.R_mono (ok' := (fun k_ => (P0_1_ k_ ∨ w.heap.size ≤ k_) ∧ k_ ≠ gb220 ∧ k_ ≠ gb221 ∧ k_ ≠ gb229)) (Kd.R_types (Kd.R_types (Kd.R_types (HO228.out) BK220.out (by decide)) BK221.out (by decide)) BK229.out (by decide)) (fun k_ hk => ⟨(.inr (hk.1.1.1)), ⟨hk.1.1.2, ⟨hk.1.2, hk.2⟩⟩⟩))))) (Reps.none _ _)))
                  intro v237 w48 ho49 hb hg_ hnew_
                  clear hg_ hnew_
                  (first | rw [← Ny236.out] at ho49 | (simp only [Int.reduceToNat] at ho49; rw [← Ny236.out] at ho49))
                  have n0_ := Aside0.mk (vf_ HO0_1.out (Kd.N_base ho49) hb)
                  have n1_ := Aside0.mk (Kd.N_lower ho49 (below_size (by repeat (first | (with_reducible first | exact HB.out | apply below_alloc | apply pw_below_drewN | apply below_drew1 | refine below_set ?_ GE220.out | refine below_set ?_ GE221.out | refine below_set ?_ GE229.out) | exact HB.out))))
                  have n2_ := Aside0.mk (bb_ BK220.out hb)
                  have n3_ := Aside0.mk (bb_ BK221.out hb)
                  have n4_ := Aside0.mk (bb_ BK229.out hb)
                  have n5_ := Aside0.mk (bs_ hb)
                  clear HO0_1 BK220 BK221 BK229 HB HO228
                  have HO0_1 := n0_
                  have HO238 := n1_
                  have BK220 := n2_
                  have BK221 := n3_
                  have BK229 := n4_
                  have HB := n5_
                  clear n0_ n1_ n2_ n3_ n4_ n5_
                  clear hb ho49
                  refine hK.out _ _ ⟨(blk_cell BK220.out 0).trans rfl, (blk_cell BK220.out 1).trans rfl, (blk_cell BK229.out 0).trans rfl, (blk_cell BK229.out 1).trans rfl, (blk_cell BK229.out 2).trans rfl, (blk_cell BK229.out 3).trans rfl⟩ (fun hHeld => ?_)
                  clear hK K
                  refine norm_ (a' := ?_) ?_ ?_
                  rotate_left
                  · show Act.put _ (some 40) _ = _
                    simp only [Act.put, List.setIfInBounds_toArray, List.set_cons_zero, List.set_cons_succ, i64_w, i32_w]
                    rfl
                  refine one_ (i := 0) (N := some 35) #[true, true, true, false, true, true, false, false, false] rfl rfl (one_of HT_.out (by kernel_rfl)) (by decide) (fun K hK => ?_)
                  refine Kd.N_lit_step k43 _ 43 ?hg (N' := 35) ?hd (xs := ([] : List (S43))) (inner := []) (ok := (fun k_ => (P0_1_ k_ ∨ w.heap.size ≤ k_) ∧ some k_ ≠ (v237 : Value).ownBlock ∧ k_ ≠ gb220 ∧ k_ ≠ gb221 ∧ k_ ≠ gb229)) (okp := (fun k_ => (P0_1_ k_ ∨ w.heap.size ≤ k_) ∧ some k_ ≠ (v237 : Value).ownBlock ∧ k_ ≠ gb220 ∧ k_ ≠ gb221 ∧ k_ ≠ gb229)) ?hr ?hp (fun _ hk => hk) ((show ∀ k_, w48.heap.size ≤ k_ → (fun k_ => (P0_1_ k_ ∨ w.heap.size ≤ k_) ∧ some k_ ≠ (v237 : Value).ownBlock ∧ k_ ≠ gb220 ∧ k_ ≠ gb221 ∧ k_ ≠ gb229) k_ from fun k_ hk => ⟨(.inr (Nat.le_trans (below_size (by repeat (first | (with_reducible first | exact HB.out | apply below_alloc | apply pw_below_drewN | apply below_drew1 | refine below_set ?_ GE220.out | refine below_set ?_ GE221.out | refine below_set ?_ GE229.out) | exact HB.out))) hk)), Kd.fresh' (Kd.N_lt (by (with_reducible repeat (first | apply Kd.N_alloc | apply Kd.N_drewN | apply Kd.N_drew)); exact HO238.out)) k_ hk, fb_ BK220.out k_ hk, fb_ BK221.out k_ hk, fb_ BK229.out k_ hk⟩) _ (Nat.le_refl _)) (Below.refl _ _) (Nat.le_refl _) (by simp) ?_; (case hd => rfl); (case hg => rfl); (case hr => first | (go_simp; done) | (go_simp; rfl)); (case hp => exact (Reps.none _ _))
                  intro v231 w50 ho51 hb hg_ hnew_
                  clear hg_ hnew_
                  (first | rw [← Ny230.out] at ho51 | (simp only [Int.reduceToNat] at ho51; rw [← Ny230.out] at ho51))
                  have n0_ := Aside0.mk (vf_ HO0_1.out (Kd.N_base ho51) hb)
                  have n1_ := Aside0.mk (nf_ HO238.out (Kd.N_base ho51) hb)
                  have n2_ := Aside0.mk (Kd.N_lower ho51 (below_size (by repeat (first | (with_reducible first | exact HB.out | apply below_alloc | apply pw_below_drewN | apply below_drew1 | refine below_set ?_ GE220.out | refine below_set ?_ GE221.out | refine below_set ?_ GE229.out) | exact HB.out))))
                  have n3_ := Aside0.mk (bb_ BK220.out hb)
                  have n4_ := Aside0.mk (bb_ BK221.out hb)
                  have n5_ := Aside0.mk (bb_ BK229.out hb)
                  have n6_ := Aside0.mk (bs_ hb)
                  clear HO0_1 HO238 BK220 BK221 BK229 HB
                  have HO0_1 := n0_
                  have HO238 := n1_
                  have HO232 := n2_
                  have BK220 := n3_
                  have BK221 := n4_
                  have BK229 := n5_
                  have HB := n6_
                  clear n0_ n1_ n2_ n3_ n4_ n5_ n6_
                  clear hb ho51
                  refine hK.out _ _ ⟨(blk_cell BK220.out 0).trans rfl, (blk_cell BK220.out 1).trans rfl, (blk_cell BK229.out 0).trans rfl, (blk_cell BK229.out 1).trans rfl, (blk_cell BK229.out 2).trans rfl, (blk_cell BK229.out 3).trans rfl⟩ (fun hHeld => ?_)
                  clear hK K
                  refine norm_ (a' := ?_) ?_ ?_
                  rotate_left
                  · show Act.put _ (some 35) _ = _
                    simp only [Act.put, List.setIfInBounds_toArray, List.set_cons_zero, List.set_cons_succ, i64_w, i32_w]
                    rfl
                  refine one_ (i := 3) (N := some 38) #[true, true, true, true, true, true, false, false, false] rfl rfl (one_of HT_.out (by kernel_rfl)) (by decide) (fun K hK => ?_)
                  refine Kd.N_append_rows_step k43 (w0 := w) w.heap.size (by rfl) (.tmp 35) (.tmp 37) 22 43 (.agg #[(.int .u32 0), (.int .u32 0), (.int .u32 0), (.slice none 0 0)]) 40 rfl Try.underlying22 info43 rfl (by decide) (by omega) v231 y230 l0_1 _ _ _ (fun k_ => (P0_1_ k_ ∨ w.heap.size ≤ k_) ∧ some k_ ≠ (v237 : Value).ownBlock ∧ k_ ≠ gb220 ∧ k_ ≠ gb221 ∧ k_ ≠ gb229) (fun k_ => ((fun k_ => (P0_1_ k_ ∨ w.heap.size ≤ k_) ∧ some k_ ≠ (v237 : Value).ownBlock ∧ k_ ≠ gb220 ∧ k_ ≠ gb221 ∧ k_ ≠ gb229)) k_ ∧ some k_ ≠ (v231 : Value).ownBlock) rfl rfl ?aO ?aR (fun _ hk => hk) ?aF ?aB ?aS ?aL ?_
                  (case aR => exact (by skip; exact Kd.V_F (Kd.V_mono (ok' := (fun k_ => ((fun k_ => (P0_1_ k_ ∨ w.heap.size ≤ k_) ∧ some k_ ≠ (v237 : Value).ownBlock ∧ k_ ≠ gb220 ∧ k_ ≠ gb221 ∧ k_ ≠ gb229)) k_ ∧ some k_ ≠ (v231 : Value).ownBlock)) (HO0_1.out) (fun k_ hk => ⟨⟨hk.1.1.1, ⟨hk.1.2, ⟨hk.1.1.2.2.1, ⟨hk.1.1.2.2.2.1, hk.1.1.2.2.2.2⟩⟩⟩⟩, hk.2⟩))))
                  (case aB => exact (by repeat (first | (with_reducible first | exact HB.out | apply below_alloc | apply pw_below_drewN | apply below_drew1 | refine below_set ?_ GE220.out | refine below_set ?_ GE221.out | refine below_set ?_ GE229.out) | exact HB.out)))
                  (case aF => exact (fun k_ hk => ⟨(.inr (Nat.le_trans (below_size (by repeat (first | (with_reducible first | exact HB.out | apply below_alloc | apply pw_below_drewN | apply below_drew1 | refine below_set ?_ GE220.out | refine below_set ?_ GE221.out | refine below_set ?_ GE229.out) | exact HB.out))) hk)), Kd.fresh' (Kd.N_lt (by (with_reducible repeat (first | apply Kd.N_alloc | apply Kd.N_drewN | apply Kd.N_drew)); exact HO238.out)) k_ hk, fb_ BK220.out k_ hk, fb_ BK221.out k_ hk, fb_ BK229.out k_ hk⟩))
                  (case aO => exact (by (with_reducible repeat (first | apply Kd.N_alloc | apply Kd.N_drewN | apply Kd.N_drew)); exact HO232.out))
                  (case aS => exact (below_size (by repeat (first | (with_reducible first | exact HB.out | apply below_alloc | apply pw_below_drewN | apply below_drew1 | refine below_set ?_ GE220.out | refine below_set ?_ GE221.out | refine below_set ?_ GE229.out) | exact HB.out))))
                  (case aL => have := LMc30.out; omega)
                  intro v234 w52 ho hb hg hat
                  rw [← Ny233.out] at ho
                  have n0_ := Aside0.mk (Kd.V_afterv (ok := (fun k_ => (P0_1_ k_ ∨ w.heap.size ≤ k_) ∧ some k_ ≠ (v237 : Value).ownBlock ∧ k_ ≠ gb220 ∧ k_ ≠ gb221 ∧ k_ ≠ gb229)) (by (with_reducible repeat (first | apply Kd.V_alloc | apply Kd.V_drewN | apply Kd.V_drew)); exact Kd.V_mono HO0_1.out (fun _ hk => ⟨⟨hk.1.1.1, ⟨hk.1.2, ⟨hk.1.1.2.2.1, ⟨hk.1.1.2.2.2.1, hk.1.1.2.2.2.2⟩⟩⟩⟩, hk.2⟩)) hg hat)
                  have n1_ := Aside0.mk (blk_grown (g := gb220) (o := .cells #[.int .i64 a0_0, .slice A0_1 l0_1.length c0_1] 24 (0, 0)) (by (with_reducible repeat (first | refine blk_drewN ?_ _ | refine blk_drew ?_ | refine blk_alloc ?_ _)); exact BK220.out) hg (Kd.N_ne HO232.out BK220.out (by decide)))
                  have n2_ := Aside0.mk (blk_grown (g := gb221) (o := .cells #[.int .i64 0, .slice none 0 0] 24 (0, 0)) (by (with_reducible repeat (first | refine blk_drewN ?_ _ | refine blk_drew ?_ | refine blk_alloc ?_ _)); exact BK221.out) hg (Kd.N_ne HO232.out BK221.out (by decide)))
                  have n3_ := Aside0.mk (blk_grown (g := gb229) (o := .cells #[.int .u32 a1, .int .u32 a2, .int .u32 a3, .slice Ao41 y226.length co41] 43 (0, 0)) (by (with_reducible repeat (first | refine blk_drewN ?_ _ | refine blk_drew ?_ | refine blk_alloc ?_ _)); exact BK229.out) hg (Kd.N_away HO232.out (fun _ hk => hk.2.2.2.2)))
                  have n4_ := Aside0.mk (Kd.N_afterv (ok := (fun k_ => (P0_1_ k_ ∨ w.heap.size ≤ k_) ∧ k_ ≠ gb220 ∧ k_ ≠ gb221 ∧ k_ ≠ gb229)) (by (with_reducible repeat (first | apply Kd.N_alloc | apply Kd.N_drewN | apply Kd.N_drew)); exact HO238.out) hg hat)
                  have n5_ := Aside0.mk (hb)
                  have n6_ := Aside0.mk (ho)
                  clear HO0_1 BK220 BK221 BK229 HO238 HB HO232
                  have HO0_1 := n0_
                  have BK220 := n1_
                  have BK221 := n2_
                  have BK229 := n3_
                  have HO238 := n4_
                  have HB := n5_
                  have HO235 := n6_
                  clear n0_ n1_ n2_ n3_ n4_ n5_ n6_
                  clear ho hb hg hat
                  refine hK.out _ _ ⟨(blk_cell BK220.out 0).trans rfl, (blk_cell BK220.out 1).trans rfl, (blk_cell BK229.out 0).trans rfl, (blk_cell BK229.out 1).trans rfl, (blk_cell BK229.out 2).trans rfl, (blk_cell BK229.out 3).trans rfl⟩ (fun hHeld => ?_)
                  clear hK K
                  refine norm_ (a' := ?_) ?_ ?_
                  rotate_left
                  · show Act.put _ (some 38) _ = _
                    simp only [Act.put, List.setIfInBounds_toArray, List.set_cons_zero, List.set_cons_succ, i64_w, i32_w]
                    rfl
                  exact norm_ (by simp only [putAll, Act.put, List.setIfInBounds_toArray, List.set_cons_zero, List.set_cons_succ]) (hCont (v231, v234, v237) _ ⟨hHeld, (by (with_reducible repeat (first | apply Kd.V_alloc | apply Kd.V_drewN | apply Kd.V_drew)); exact Kd.V_mono HO0_1.out (fun _ hk => ⟨hk.1.1, ⟨hk.2, ⟨hk.1.2.1, ⟨hk.1.2.2.1, ⟨hk.1.2.2.2.1, hk.1.2.2.2.2⟩⟩⟩⟩⟩)), (by (with_reducible repeat (first | apply Kd.N_alloc | apply Kd.N_drewN | apply Kd.N_drew)); exact HO235.out), (by (with_reducible repeat (first | apply Kd.N_alloc | apply Kd.N_drewN | apply Kd.N_drew)); exact Kd.N_mono HO238.out (fun _ hk => ⟨hk.1.1, ⟨hk.2, ⟨hk.1.2.1, ⟨hk.1.2.2.1, hk.1.2.2.2⟩⟩⟩⟩)), (by (with_reducible repeat (first | refine blk_drewN ?_ _ | refine blk_drew ?_ | refine blk_alloc ?_ _)); exact BK220.out), (by (with_reducible repeat (first | refine blk_drewN ?_ _ | refine blk_drew ?_ | refine blk_alloc ?_ _)); exact BK221.out), (by (with_reducible repeat (first | refine blk_drewN ?_ _ | refine blk_drew ?_ | refine blk_alloc ?_ _)); exact BK229.out), (by repeat (first | (with_reducible first | exact HB.out | apply below_alloc | apply pw_below_drewN | apply below_drew1 | refine below_set ?_ GE220.out | refine below_set ?_ GE221.out | refine below_set ?_ GE229.out) | exact HB.out))⟩)
              rintro ⟨v231, v234, v237⟩ w53 ⟨hS_, h0_, h1_, h2_, h3_, h4_, h5_, h6_⟩
              have n1_ : Aside0 (Kd.N k43 43 w53 w.heap.size (fun k_ => (P0_1_ k_ ∨ w.heap.size ≤ k_) ∧ some k_ ≠ (v237 : Value).ownBlock ∧ k_ ≠ gb220 ∧ k_ ≠ gb221 ∧ k_ ≠ gb229) v234 y233) := ⟨h1_⟩
              have n2_ : Aside0 (Kd.N k43 43 w53 w.heap.size (fun k_ => (P0_1_ k_ ∨ w.heap.size ≤ k_) ∧ some k_ ≠ (v234 : Value).ownBlock ∧ k_ ≠ gb220 ∧ k_ ≠ gb221 ∧ k_ ≠ gb229) v237 y236) := ⟨h2_⟩
              have n3_ : Aside0 (w53.heap[gb220]? = some (.cells #[.int .i64 a0_0, .slice A0_1 l0_1.length c0_1] 24 (0, 0))) := ⟨h3_⟩
              have n4_ : Aside0 (w53.heap[gb221]? = some (.cells #[.int .i64 0, .slice none 0 0] 24 (0, 0))) := ⟨h4_⟩
              have n5_ : Aside0 (w53.heap[gb229]? = some (.cells #[.int .u32 a1, .int .u32 a2, .int .u32 a3, .slice Ao41 y226.length co41] 43 (0, 0))) := ⟨h5_⟩
              have n6_ : Aside0 (Below w.heap.size w w53) := ⟨h6_⟩
              clear HO0_1 HO228 BK220 BK221 BK229 HB h0_ h1_ h2_ h3_ h4_ h5_ h6_
              have HO235 := n1_
              have HO238 := n2_
              have BK220 := n3_
              have BK221 := n4_
              have BK229 := n5_
              have HB := n6_
              clear n1_ n2_ n3_ n4_ n5_ n6_
              have hHeld : w53.cell? ⟨gb220, 0, none⟩ = some (.int .i64 a0_0) ∧ w53.cell? ⟨gb220, 1, none⟩ = some (.slice A0_1 l0_1.length c0_1) ∧ w53.cell? ⟨gb229, 0, none⟩ = some (.int .u32 a1) ∧ w53.cell? ⟨gb229, 1, none⟩ = some (.int .u32 a2) ∧ w53.cell? ⟨gb229, 2, none⟩ = some (.int .u32 a3) ∧ w53.cell? ⟨gb229, 3, none⟩ = some (.slice Ao41 y226.length co41) := hS_
              obtain ⟨Ao55, co55, eo55⟩ := Kd.N_slice HO238.out
              (first | subst eo55 | (injection eo55 with f1_ f2_ f3_; have f4_ := f1_.symm; have f5_ := f3_.symm; clear f1_ f2_ f3_; subst f4_; subst f5_))
              refine norm_ (a' := ?_) ?_ ?_
              rotate_left
              · simp only [putAll, Act.put, List.setIfInBounds_toArray, List.set_cons_zero, List.set_cons_succ]
                rfl
              refine one_ (i := 6) (N := some 41) #[true, true, true, true, true, true, true, false, false] rfl rfl (one_of HT_.out (by kernel_rfl)) (by decide) (fun K hK => ?_)
              refine Kd.N_append_rows_step k43 (w0 := w) w.heap.size (by rfl) (.tmp 38) (.tmp 40) 22 43 (.agg #[(.int .u32 0), (.int .u32 0), (.int .u32 0), (.slice none 0 0)]) 40 rfl Try.underlying22 info43 rfl (by decide) (by omega) v234 y233 y236 _ _ _ (fun k_ => (P0_1_ k_ ∨ w.heap.size ≤ k_) ∧ k_ ≠ gb220 ∧ k_ ≠ gb221 ∧ k_ ≠ gb229) (fun k_ => ((fun k_ => (P0_1_ k_ ∨ w.heap.size ≤ k_) ∧ k_ ≠ gb220 ∧ k_ ≠ gb221 ∧ k_ ≠ gb229)) k_ ∧ some k_ ≠ (v234 : Value).ownBlock) rfl rfl ?aO ?aR (fun _ hk => hk) ?aF ?aB ?aS ?aL ?_
              (case aR => exact (by skip; exact Kd.N_F (Kd.N_mono (ok' := (fun k_ => ((fun k_ => (P0_1_ k_ ∨ w.heap.size ≤ k_) ∧ k_ ≠ gb220 ∧ k_ ≠ gb221 ∧ k_ ≠ gb229)) k_ ∧ some k_ ≠ (v234 : Value).ownBlock)) (HO238.out) (fun k_ hk => ⟨⟨hk.1, ⟨hk.2.2.1, ⟨hk.2.2.2.1, hk.2.2.2.2⟩⟩⟩, hk.2.1⟩))))
              (case aB => exact (by repeat (first | (with_reducible first | exact HB.out | apply below_alloc | apply pw_below_drewN | apply below_drew1 | refine below_set ?_ GE220.out | refine below_set ?_ GE221.out | refine below_set ?_ GE229.out) | exact HB.out)))
              (case aF => exact (fun k_ hk => ⟨(.inr (Nat.le_trans (below_size (by repeat (first | (with_reducible first | exact HB.out | apply below_alloc | apply pw_below_drewN | apply below_drew1 | refine below_set ?_ GE220.out | refine below_set ?_ GE221.out | refine below_set ?_ GE229.out) | exact HB.out))) hk)), fb_ BK220.out k_ hk, fb_ BK221.out k_ hk, fb_ BK229.out k_ hk⟩))
              (case aO => exact (by (with_reducible repeat (first | apply Kd.N_alloc | apply Kd.N_drewN | apply Kd.N_drew)); exact Kd.N_mono HO235.out (fun _ hk => ⟨hk.1, ⟨hk.2.2.1, ⟨hk.2.2.2.1, hk.2.2.2.2⟩⟩⟩)))
              (case aS => exact (below_size (by repeat (first | (with_reducible first | exact HB.out | apply below_alloc | apply pw_below_drewN | apply below_drew1 | refine below_set ?_ GE220.out | refine below_set ?_ GE221.out | refine below_set ?_ GE229.out) | exact HB.out))))
              (case aL => have := LMc31.out; omega)
              intro v240 w54 ho hb hg hat
              rw [← Ny239.out] at ho
              have n1_ := Aside0.mk (blk_grown (g := gb220) (o := .cells #[.int .i64 a0_0, .slice A0_1 l0_1.length c0_1] 24 (0, 0)) (by (with_reducible repeat (first | refine blk_drewN ?_ _ | refine blk_drew ?_ | refine blk_alloc ?_ _)); exact BK220.out) hg (Kd.N_ne HO235.out BK220.out (by decide)))
              have n2_ := Aside0.mk (blk_grown (g := gb221) (o := .cells #[.int .i64 0, .slice none 0 0] 24 (0, 0)) (by (with_reducible repeat (first | refine blk_drewN ?_ _ | refine blk_drew ?_ | refine blk_alloc ?_ _)); exact BK221.out) hg (Kd.N_ne HO235.out BK221.out (by decide)))
              have n3_ := Aside0.mk (blk_grown (g := gb229) (o := .cells #[.int .u32 a1, .int .u32 a2, .int .u32 a3, .slice Ao41 y226.length co41] 43 (0, 0)) (by (with_reducible repeat (first | refine blk_drewN ?_ _ | refine blk_drew ?_ | refine blk_alloc ?_ _)); exact BK229.out) hg (Kd.N_away HO235.out (fun _ hk => hk.2.2.2.2)))
              have n5_ := Aside0.mk (hb)
              have n6_ := Aside0.mk (ho)
              clear BK220 BK221 BK229 HO238 HB HO235
              have BK220 := n1_
              have BK221 := n2_
              have BK229 := n3_
              have HB := n5_
              have HO241 := n6_
              clear n1_ n2_ n3_ n5_ n6_
              clear ho hb hg hat
              obtain ⟨Ao56, co56, eo56⟩ := Kd.N_slice HO241.out
              (first | subst eo56 | (injection eo56 with f1_ f2_ f3_; have f4_ := f1_.symm; have f5_ := f3_.symm; clear f1_ f2_ f3_; subst f4_; subst f5_))
              refine hK.out _ _ ⟨(blk_cell BK220.out 0).trans rfl, (blk_cell BK220.out 1).trans rfl, (blk_cell BK229.out 0).trans rfl, (blk_cell BK229.out 1).trans rfl, (blk_cell BK229.out 2).trans rfl, (blk_cell BK229.out 3).trans rfl⟩ (fun hHeld => ?_)
              clear hK K
              refine norm_ (a' := ?_) ?_ ?_
              rotate_left
              · show Act.put _ (some 41) _ = _
                simp only [Act.put, List.setIfInBounds_toArray, List.set_cons_zero, List.set_cons_succ, i64_w, i32_w]
                rfl
              refine pure_ (i := 7) (N := some 42) (v := ?_) (a' := ?_) #[true, true, true, true, true, true, true, true, false] rfl rfl (any_of HT_.out (by kernel_rfl)) (fun _ _ _ h => h) (Or.inl ⟨by rfl, ?_⟩) ?_ ?_
              rotate_left
              · intro w'
                go_simp
                with_reducible rfl
              rotate_left
              · simp only [Act.put, List.setIfInBounds_toArray, List.set_cons_zero, List.set_cons_succ, i64_w, i32_w]
                rfl
              refine last_ (i := 8) (N := none) #[true, true, true, true, true, true, true, true, true] rfl rfl (one_of HT_.out (by kernel_rfl)) (by decide) (fun K hK => ?_)
              have hs57 : w54.cell? ⟨gb220, 1, none⟩ = some (.slice A0_1 l0_1.length c0_1) := (blk_cell BK220.out 1).trans rfl
              have hfs57 := blk_frozen BK220.out 1
              have hns57_1 := NB221_220.out
              have hns57_2 := NB229_220.out
              have hms57_1 := NB220_221.out
              have hms57_2 := NB220_229.out
              refine skip_ (w1 := ?_) (by rfl) rfl ?_ ?_
              rotate_left
              · go_simp
                rfl
              refine hK.out _ _ ?_
              clear hK K
              refine done_ (done_of HT_.out (by kernel_rfl)) ?_
              have ⟨hcz58_0, hcz58_1⟩ := cz2_ BK220.out
              have ⟨hfz58_0, hfz58_1⟩ := fz2_ BK220.out
              have ⟨hcz59_0, hcz59_1⟩ := cz2_ BK221.out
              have ⟨hfz59_0, hfz59_1⟩ := fz2_ BK221.out
              try go_wp2
              refine bodyPost_ret (results_ct rfl _ _ gb221 24 #[.int .i64 a0_0, .slice Ao56 y239.length co56] (0, 0) _ rfl (by (with_reducible repeat (first | refine blk_drewN ?_ _ | refine blk_drew ?_ | refine blk_alloc ?_ _)); refine blk_put (cs := #[.int .i64 a0_0, .slice none 0 0]) ?_ 1 _ rfl; (with_reducible repeat (first | refine blk_drewN ?_ _ | refine blk_drew ?_ | refine blk_alloc ?_ _)); refine blk_put (cs := #[.int .i64 0, .slice none 0 0]) ?_ 0 _ rfl; (with_reducible repeat (first | refine blk_drewN ?_ _ | refine blk_drew ?_ | refine blk_alloc ?_ _)); refine blk_far ?_ NB221_220.out _; (with_reducible repeat (first | refine blk_drewN ?_ _ | refine blk_drew ?_ | refine blk_alloc ?_ _)); exact BK221.out) Try.underlying24 rfl (by kernel_rfl)) rfl ?_
              exact ⟨_, by first | rfl | (simp [errW_none, errW_some] <;> rfl) | (simp [*, errW_none, errW_some] <;> rfl), Kd.N_V (by (with_reducible repeat (first | apply Kd.N_alloc | apply Kd.N_drewN | apply Kd.N_drew)); exact Kd.N_mono (n2_ (g := gb221) (Kd.N_far (p := ⟨gb220, 1, none⟩) (Kd.N_mono (Kd.N_mono HO241.out (fun k_ hk => (⟨hk, hk.2.1⟩ : _ ∧ k_ ≠ gb220))) (fun k_ hk => (⟨hk, hk.1.2.2.1⟩ : _ ∧ k_ ≠ gb221))) (fun _ hk => hk.1.2) (.slice Ao56 y239.length co56))) (fun _ hk => hk.1.1.1)), by repeat (first | (with_reducible first | exact HB.out | apply below_alloc | apply pw_below_drewN | apply below_drew1 | refine below_set ?_ GE220.out | refine below_set ?_ GE221.out | refine below_set ?_ GE229.out) | exact HB.out)⟩
            · rw [if_neg c31] at H
              exact absurd H (by simp)
          · rw [if_neg c30] at H
            exact absurd H (by simp)
        · rw [if_neg c29] at H
          exact absurd H (by simp)

end Go.Proofs.Ytifdlpnpbicahaa.PBoxKeeps
