-- Written for this claim by wip/tools/myprint.py (print.py's forms; proofs of the faked functions by hand).
import Derived.Test.YthlcpbendleihaaPAdvAlonex1
import Derived.Test.YthlcpbendleihaaPAdvAlonex2
import Derived.Test.YthlcpbendleihaaPAdvAlonex0
namespace Go.Proofs.Ythlcpbendleihaa.PAdvAlone
open Go.RowKit Go.Proofs.YthlcpbendleihaaW.PrintWords Go.Proofs.YthlcpbendleihaaW.PrintLast Go.Proofs.YthlcpbendleihaaW.PrintMore
attribute [local go_sem] max2_int min2_int max_two min_two max_three min_three max_four min_four   -- for this text's walks alone
set_option linter.unusedVariables false
set_option linter.unusedSimpArgs false

/-! ### chamberlainref01_Same: function 16 -/
def chamberlainref01_Same.l0 : Nat → List Int → List Int → Int → Option (Bool)
 | 0, _, _, _ => none
 | k + 1, x0, x1, x5 => if x5 < (x0.length : Int) then (if 0 ≤ x5 then (if x5 < (x1.length : Int) then (if (rd x0 x5) = (rd x1 x5) then (chamberlainref01_Same.l0 k x0 x1 (wrap64 (x5 + 1))) else (some false)) else (none)) else (none)) else (some true)
def chamberlainref01_Same.f (k : Nat) (l0 : List Int) (l1 : List Int) : Option (Bool) := if (l0.length : Int) = (l1.length : Int) then (chamberlainref01_Same.l0 k l0 l1 0) else (some false)
set_option maxHeartbeats 8000000 in
set_option maxRecDepth 100000 in
theorem chamberlainref01_Same.calls (k : Nat) (A0 : Option Addr) (c0 : Nat) (l0 : List Int) (A1 : Option Addr) (c1 : Nat) (l1 : List Int) (r : Bool) (w : World) (hr0 : Kd.C (Kd.int .u32) w A0 l0.length l0) (hc0 : l0.length ≤ c0) (hr1 : Kd.C (Kd.int .u32) w A1 l1.length l1) (hc1 : l1.length ≤ c1) (h : chamberlainref01_Same.f k l0 l1 = some r) :
  Calls Try.prog 16 #[.slice A0 l0.length c0, .slice A1 l1.length c1] w fun e w' => e = .returned (.bool r) ∧ Drawn0 w w' := by
 have HR0 := Aside0.mk hr0
 have HC0 := Aside0.mk hc0
 clear hr0 hc0
 have HR1 := Aside0.mk hr1
 have HC1 := Aside0.mk hc1
 clear hr1 hc1
 have H : (if (l0.length : Int) = (l1.length : Int) then (chamberlainref01_Same.l0 k l0 l1 0) else (some false)) = some r := h
 clear h
 by_cases c3 : (l0.length : Int) = (l1.length : Int)
 ·
  rw [if_pos c3] at H
  have c3b0 : ((l0.length : Int) == (l1.length : Int)) = true := beq_iff_eq.mpr c3
  have c3b1 : ((l0.length : Int) != (l1.length : Int)) = false := bne_eq_false_iff_eq.mpr c3
  have c3b2 : (l0.length == l1.length) = true := by first | simpa using c3 | (simp at c3 ⊢; omega)
  clear c3
  have H' := Aside0.mk H
  clear H
  go_enter Try.func16, Try.ntmps16
  go_wp2
  repeat (go_quiet (fail); try go_wp2)
  go_loopg [5] k (fun kq v5 w' => ∃ (x5_1 : Int), v5 = .int .i64 x5_1 ∧ Aside0 (chamberlainref01_Same.l0 kq l0 l1 x5_1 = some r) ∧ Aside0 (kq ≤ k) ∧ Drawn0 w w')
  case atStart => exact ⟨(0), sD_, H', ⟨Nat.le_refl _⟩, dR_⟩
  case round =>
   clear H'
   try clear c1
   try clear p2
   try clear c3
   try clear c3b0
   try clear c3b1
   try clear c3b2
   obtain ⟨x5_1, rfl, HA, HK1, ⟨m1, rfl⟩⟩ := hrel
   cases gk with
   | zero => exact absurd HA.out (by simp [chamberlainref01_Same.l0])
   | succ k1 =>
    have H := HA.out
    clear HA
    simp only [chamberlainref01_Same.l0] at H
    by_cases c4 : x5_1 < (l0.length : Int)
    ·
     rw [if_pos c4] at H
     have c4b0 : decide (x5_1 < (l0.length : Int)) = true := decide_eq_true c4
     clear c4
     by_cases c5 : 0 ≤ x5_1
     ·
      rw [if_pos c5] at H
      have c5b0 : decide (0 ≤ x5_1) = true := decide_eq_true c5
      clear c5
      by_cases c6 : x5_1 < (l1.length : Int)
      ·
       rw [if_pos c6] at H
       have c6b0 : decide (x5_1 < (l1.length : Int)) = true := decide_eq_true c6
       clear c6
       by_cases c7 : (rd l0 x5_1) = (rd l1 x5_1)
       ·
        rw [if_pos c7] at H
        have c7b0 : ((rd l0 x5_1) == (rd l1 x5_1)) = true := beq_iff_eq.mpr c7
        have c7b1 : ((rd l0 x5_1) != (rd l1 x5_1)) = false := bne_eq_false_iff_eq.mpr c7
        clear c7
        have H' := Aside0.mk H
        clear H
        have p101 : 0 ≤ (x5_1 : Int) := of_decide_eq_true aS_
        have q101 : x5_1 < (l0.length : Int) := of_decide_eq_true aS_
        obtain ⟨ad101, e101, hx101_0⟩ := Kd.at_int HR0.out x5_1 p101 q101
        cases e101
        replace p101 := eq_true p101
        replace q101 := eq_true q101
        have p102 : 0 ≤ (x5_1 : Int) := of_decide_eq_true aS_
        have q102 : x5_1 < (l1.length : Int) := of_decide_eq_true aS_
        obtain ⟨ad102, e102, hx102_0⟩ := Kd.at_int HR1.out x5_1 p102 q102
        cases e102
        replace p102 := eq_true p102
        replace q102 := eq_true q102
        go_wp2
        repeat (go_quiet (fail); try go_wp2)
        go_roundg k1
        case measure => have := HK1.out; omega
        case rel => exact ⟨(wrap64 (x5_1 + 1)), sD_, H', ⟨by have := HK1.out; omega⟩, dR_⟩
       ·
        rw [if_neg c7] at H
        have c7b0 : ((rd l0 x5_1) == (rd l1 x5_1)) = false := beq_eq_false_iff_ne.mpr c7
        have c7b1 : ((rd l0 x5_1) != (rd l1 x5_1)) = true := bne_iff_ne.mpr c7
        obtain rfl := Option.some.inj H
        have p101 : 0 ≤ (x5_1 : Int) := of_decide_eq_true aS_
        have q101 : x5_1 < (l0.length : Int) := of_decide_eq_true aS_
        obtain ⟨ad101, e101, hx101_0⟩ := Kd.at_int HR0.out x5_1 p101 q101
        cases e101
        replace p101 := eq_true p101
        replace q101 := eq_true q101
        have p102 : 0 ≤ (x5_1 : Int) := of_decide_eq_true aS_
        have q102 : x5_1 < (l1.length : Int) := of_decide_eq_true aS_
        obtain ⟨ad102, e102, hx102_0⟩ := Kd.at_int HR1.out x5_1 p102 q102
        cases e102
        replace p102 := eq_true p102
        replace q102 := eq_true q102
        go_wp2
        repeat (go_quiet (fail); try go_wp2)
        go_ret
        exact ⟨sD_, dR_⟩
      ·
       rw [if_neg c6] at H
       exact absurd H (by simp)
     ·
      rw [if_neg c5] at H
      exact absurd H (by simp)
    ·
     rw [if_neg c4] at H
     have c4b0 : decide (x5_1 < (l0.length : Int)) = false := decide_eq_false c4
     clear c4
     obtain rfl := Option.some.inj H
     go_wp2
     repeat (go_quiet (fail); try go_wp2)
     go_ret
     exact ⟨sD_, dR_⟩
 ·
  rw [if_neg c3] at H
  have c3b0 : ((l0.length : Int) == (l1.length : Int)) = false := beq_eq_false_iff_ne.mpr c3
  have c3b1 : ((l0.length : Int) != (l1.length : Int)) = true := bne_iff_ne.mpr c3
  have c3b2 : (l0.length == l1.length) = false := by first | simpa using c3 | (simp at c3 ⊢; omega)
  obtain rfl := Option.some.inj H
  go_enter Try.func16, Try.ntmps16
  go_wp2
  repeat (go_quiet (fail); try go_wp2)
  go_ret
  exact ⟨sD_, dR_⟩

/-! ### chamberlainref04_At: function 71 -/
def chamberlainref04_At.f (l0_0 : List Int) (a0_1 : Int) (a1 : Int) : Option (Int) := if a1 < (l0_0.length : Int) then (if 0 ≤ a1 then (if (rd l0_0 a1) < 2147483648 then (some (((rd l0_0 a1) + 2147483648) % 4294967296)) else (some (rd l0_0 a1))) else (none)) else (if (Go.bits .or .u32 1073741824 ((a1) % 4294967296)) < 2147483648 then (some (((Go.bits .or .u32 1073741824 ((a1) % 4294967296)) + 2147483648) % 4294967296)) else (some (Go.bits .or .u32 1073741824 ((a1) % 4294967296))))
set_option maxHeartbeats 8000000 in
set_option maxRecDepth 100000 in
theorem chamberlainref04_At.calls (A0_0 : Option Addr) (c0_0 : Nat) (l0_0 : List Int) (a0_1 : Int) (a1 : Int) (r : Int) (w : World) (hr0_0 : Kd.C (Kd.int .u32) w A0_0 l0_0.length l0_0) (hc0_0 : l0_0.length ≤ c0_0) (h : chamberlainref04_At.f l0_0 a0_1 a1 = some r) :
  Calls Try.prog 71 #[.agg #[.slice A0_0 l0_0.length c0_0, .int .i64 a0_1], .int .i64 a1] w fun e w' => e = .returned (.int .u32 r) ∧ Below w.heap.size w w' := by
 have hu27 := Try.underlying27
 have HR0_0 := Aside0.mk hr0_0
 have HC0_0 := Aside0.mk hc0_0
 clear hr0_0 hc0_0
 have HB := Aside0.mk (Below.refl w.heap.size w)
 have H : (if a1 < (l0_0.length : Int) then (if 0 ≤ a1 then (if (rd l0_0 a1) < 2147483648 then (some (((rd l0_0 a1) + 2147483648) % 4294967296)) else (some (rd l0_0 a1))) else (none)) else (if (Go.bits .or .u32 1073741824 ((a1) % 4294967296)) < 2147483648 then (some (((Go.bits .or .u32 1073741824 ((a1) % 4294967296)) + 2147483648) % 4294967296)) else (some (Go.bits .or .u32 1073741824 ((a1) % 4294967296))))) = some r := h
 clear h
 by_cases c3 : a1 < (l0_0.length : Int)
 ·
  rw [if_pos c3] at H
  have c3b0 : decide (a1 < (l0_0.length : Int)) = true := decide_eq_true c3
  clear c3
  by_cases c4 : 0 ≤ a1
  ·
   rw [if_pos c4] at H
   have c4b0 : decide (0 ≤ a1) = true := decide_eq_true c4
   clear c4
   by_cases c5 : (rd l0_0 a1) < 2147483648
   ·
    rw [if_pos c5] at H
    have c5b0 : decide ((rd l0_0 a1) < 2147483648) = true := decide_eq_true c5
    clear c5
    obtain rfl := Option.some.inj H
    go_enter Try.func71, Try.ntmps71
    go_wp2_with (first | ((with_reducible refine gate_dst (N := 2) rfl ?_); refine box_event ?hg (N := 2) ?hd (cs := #[.slice A0_0 l0_0.length c0_0, .int .i64 a0_1]) (t := 27) ?hr ?_; (case hd => rfl); (case hg => rfl); (case hr => first | (go_simp; done) | (go_simp; rfl)); intro gb103 hg w6 hbox hb; have n0_ := Aside0.mk (below_step hB_ hb); have n1_ := Aside0.mk (hbox); have n2_ := Aside0.mk ((by rw [hg]; exact (below_size hB_) : w.heap.size ≤ gb103)); have n3_ := Aside0.mk ((by rw [hg]; exact (below_size hB_) : w.heap.size ≤ gb103)); clear HB; have HB := n0_; have BK103 := n1_; have GW103 := n2_; have GE103 := n3_; clear n0_ n1_ n2_ n3_; clear hb hbox hg; have hcz7_0 : w6.cell? ⟨gb103, 0, none⟩ = some (.slice A0_0 l0_0.length c0_0) := (blk_cell BK103.out 0).trans rfl; have hcz7_1 : w6.cell? ⟨gb103, 1, none⟩ = some (.int .i64 a0_1) := (blk_cell BK103.out 1).trans rfl; have hfz7_0 := blk_frozen BK103.out 0; have hfz7_1 := blk_frozen BK103.out 1; have p104 : 0 ≤ (a1 : Int) := of_decide_eq_true aS_; have q104 : a1 < (l0_0.length : Int) := of_decide_eq_true aS_; obtain ⟨ad104, e104, hx104_0⟩ := Kd.at_int HR0_0.out a1 p104 q104; cases e104; replace hx104_0 := (HB.out.cell (World.block_lt_of_cell? w _ hx104_0)).trans hx104_0; replace p104 := eq_true p104; replace q104 := eq_true q104))
    go_ret
    exact ⟨eW_, by repeat (first | (with_reducible first | exact HB.out | apply below_alloc | apply pw_below_drewN | apply below_drew1 | refine below_set ?_ GE103.out) | exact HB.out)⟩
   ·
    rw [if_neg c5] at H
    have c5b0 : decide ((rd l0_0 a1) < 2147483648) = false := decide_eq_false c5
    clear c5
    obtain rfl := Option.some.inj H
    go_enter Try.func71, Try.ntmps71
    go_wp2_with (first | ((with_reducible refine gate_dst (N := 2) rfl ?_); refine box_event ?hg (N := 2) ?hd (cs := #[.slice A0_0 l0_0.length c0_0, .int .i64 a0_1]) (t := 27) ?hr ?_; (case hd => rfl); (case hg => rfl); (case hr => first | (go_simp; done) | (go_simp; rfl)); intro gb103 hg w8 hbox hb; have n0_ := Aside0.mk (below_step hB_ hb); have n1_ := Aside0.mk (hbox); have n2_ := Aside0.mk ((by rw [hg]; exact (below_size hB_) : w.heap.size ≤ gb103)); have n3_ := Aside0.mk ((by rw [hg]; exact (below_size hB_) : w.heap.size ≤ gb103)); clear HB; have HB := n0_; have BK103 := n1_; have GW103 := n2_; have GE103 := n3_; clear n0_ n1_ n2_ n3_; clear hb hbox hg; have hcz9_0 : w8.cell? ⟨gb103, 0, none⟩ = some (.slice A0_0 l0_0.length c0_0) := (blk_cell BK103.out 0).trans rfl; have hcz9_1 : w8.cell? ⟨gb103, 1, none⟩ = some (.int .i64 a0_1) := (blk_cell BK103.out 1).trans rfl; have hfz9_0 := blk_frozen BK103.out 0; have hfz9_1 := blk_frozen BK103.out 1; have p104 : 0 ≤ (a1 : Int) := of_decide_eq_true aS_; have q104 : a1 < (l0_0.length : Int) := of_decide_eq_true aS_; obtain ⟨ad104, e104, hx104_0⟩ := Kd.at_int HR0_0.out a1 p104 q104; cases e104; replace hx104_0 := (HB.out.cell (World.block_lt_of_cell? w _ hx104_0)).trans hx104_0; replace p104 := eq_true p104; replace q104 := eq_true q104))
    go_ret
    exact ⟨eW_, by repeat (first | (with_reducible first | exact HB.out | apply below_alloc | apply pw_below_drewN | apply below_drew1 | refine below_set ?_ GE103.out) | exact HB.out)⟩
  ·
   rw [if_neg c4] at H
   exact absurd H (by simp)
 ·
  rw [if_neg c3] at H
  have c3b0 : decide (a1 < (l0_0.length : Int)) = false := decide_eq_false c3
  clear c3
  by_cases c10 : (Go.bits .or .u32 1073741824 ((a1) % 4294967296)) < 2147483648
  ·
   rw [if_pos c10] at H
   have c10b0 : decide ((Go.bits .or .u32 1073741824 ((a1) % 4294967296)) < 2147483648) = true := decide_eq_true c10
   clear c10
   obtain rfl := Option.some.inj H
   go_enter Try.func71, Try.ntmps71
   go_wp2_with (first | ((with_reducible refine gate_dst (N := 2) rfl ?_); refine box_event ?hg (N := 2) ?hd (cs := #[.slice A0_0 l0_0.length c0_0, .int .i64 a0_1]) (t := 27) ?hr ?_; (case hd => rfl); (case hg => rfl); (case hr => first | (go_simp; done) | (go_simp; rfl)); intro gb103 hg w11 hbox hb; have n0_ := Aside0.mk (below_step hB_ hb); have n1_ := Aside0.mk (hbox); have n2_ := Aside0.mk ((by rw [hg]; exact (below_size hB_) : w.heap.size ≤ gb103)); have n3_ := Aside0.mk ((by rw [hg]; exact (below_size hB_) : w.heap.size ≤ gb103)); clear HB; have HB := n0_; have BK103 := n1_; have GW103 := n2_; have GE103 := n3_; clear n0_ n1_ n2_ n3_; clear hb hbox hg; have hcz12_0 : w11.cell? ⟨gb103, 0, none⟩ = some (.slice A0_0 l0_0.length c0_0) := (blk_cell BK103.out 0).trans rfl; have hcz12_1 : w11.cell? ⟨gb103, 1, none⟩ = some (.int .i64 a0_1) := (blk_cell BK103.out 1).trans rfl; have hfz12_0 := blk_frozen BK103.out 0; have hfz12_1 := blk_frozen BK103.out 1))
   go_ret
   exact ⟨eW_, by repeat (first | (with_reducible first | exact HB.out | apply below_alloc | apply pw_below_drewN | apply below_drew1 | refine below_set ?_ GE103.out) | exact HB.out)⟩
  ·
   rw [if_neg c10] at H
   have c10b0 : decide ((Go.bits .or .u32 1073741824 ((a1) % 4294967296)) < 2147483648) = false := decide_eq_false c10
   clear c10
   obtain rfl := Option.some.inj H
   go_enter Try.func71, Try.ntmps71
   go_wp2_with (first | ((with_reducible refine gate_dst (N := 2) rfl ?_); refine box_event ?hg (N := 2) ?hd (cs := #[.slice A0_0 l0_0.length c0_0, .int .i64 a0_1]) (t := 27) ?hr ?_; (case hd => rfl); (case hg => rfl); (case hr => first | (go_simp; done) | (go_simp; rfl)); intro gb103 hg w13 hbox hb; have n0_ := Aside0.mk (below_step hB_ hb); have n1_ := Aside0.mk (hbox); have n2_ := Aside0.mk ((by rw [hg]; exact (below_size hB_) : w.heap.size ≤ gb103)); have n3_ := Aside0.mk ((by rw [hg]; exact (below_size hB_) : w.heap.size ≤ gb103)); clear HB; have HB := n0_; have BK103 := n1_; have GW103 := n2_; have GE103 := n3_; clear n0_ n1_ n2_ n3_; clear hb hbox hg; have hcz14_0 : w13.cell? ⟨gb103, 0, none⟩ = some (.slice A0_0 l0_0.length c0_0) := (blk_cell BK103.out 0).trans rfl; have hcz14_1 : w13.cell? ⟨gb103, 1, none⟩ = some (.int .i64 a0_1) := (blk_cell BK103.out 1).trans rfl; have hfz14_0 := blk_frozen BK103.out 0; have hfz14_1 := blk_frozen BK103.out 1))
   go_ret
   exact ⟨eW_, by repeat (first | (with_reducible first | exact HB.out | apply below_alloc | apply pw_below_drewN | apply below_drew1 | refine below_set ?_ GE103.out) | exact HB.out)⟩

/-! ### chamberlainref04_Take: function 55 -/
def chamberlainref04_Take.f (l0_0 : List Int) (a0_1 : Int) : Option (List Int × Int × Int) := (chamberlainref04_At.f l0_0 a0_1 a0_1).bind fun t107 => (some (l0_0, wrap64 (a0_1 + 1), t107))
set_option maxHeartbeats 8000000 in
set_option maxRecDepth 100000 in
theorem chamberlainref04_Take.calls (P0_0_ : Nat → Prop) (A0_0 : Option Addr) (c0_0 : Nat) (l0_0 : List Int) (a0_1 : Int) (r1 : List Int) (r2 : Int) (r3 : Int) (w : World) (hs0_0 : Kd.V (Kd.int .u32) 22 w w.heap.size (fun k_ => P0_0_ k_) (.slice A0_0 l0_0.length c0_0) l0_0) (h : chamberlainref04_Take.f l0_0 a0_1 = some (r1, r2, r3)) :
  Calls Try.prog 55 #[.agg #[.slice A0_0 l0_0.length c0_0, .int .i64 a0_1]] w fun e w' => ∃ v0_ : Value, e = .returned (.tuple #[.agg #[v0_, .int .i64 r2], .int .u32 r3]) ∧ Kd.V (Kd.int .u32) 22 w' w.heap.size (fun k_ => (P0_0_ k_ ∨ w.heap.size ≤ k_)) v0_ r1 ∧ Below w.heap.size w w' := by
 have hu27 := Try.underlying27
 have HO0_0 := Aside0.mk (show Kd.V (Kd.int .u32) 22 w w.heap.size (fun k_ => (P0_0_ k_ ∨ w.heap.size ≤ k_)) (.slice A0_0 l0_0.length c0_0) l0_0 from Kd.V_mono hs0_0 (fun k_ hk => .inl hk))
 have HB := Aside0.mk (Below.refl w.heap.size w)
 have H : ((chamberlainref04_At.f l0_0 a0_1 a0_1).bind fun t107 => (some (l0_0, wrap64 (a0_1 + 1), t107))) = some (r1, r2, r3) := h
 clear h
 replace H := Option.bind_eq_some_iff.mp H
 obtain ⟨t107, A20, H⟩ := H
 replace H : (some (l0_0, wrap64 (a0_1 + 1), t107)) = some (r1, r2, r3) := H
 have A2 := Aside0.mk A20
 clear A20
 simp only [Option.some.injEq, Prod.mk.injEq] at H
 obtain ⟨rfl, rfl, rfl⟩ := H
 go_enter Try.func55, Try.ntmps55
 go_wp2_with (first | ((with_reducible refine gate_dst (N := 1) rfl ?_); refine box_event ?hg (N := 1) ?hd (cs := #[.slice A0_0 l0_0.length c0_0, .int .i64 a0_1]) (t := 27) ?hr ?_; (case hd => rfl); (case hg => rfl); (case hr => first | (go_simp; done) | (go_simp; rfl)); intro gb105 hg w3 hbox hb; have n0_ := Aside0.mk (Kd.V_below (Kd.V_elderB (by (with_reducible repeat (first | apply Kd.V_alloc | apply Kd.V_drewN | apply Kd.V_drew)); exact HO0_0.out) gb105 (Nat.le_of_eq hg.symm)) hb); have n1_ := Aside0.mk (below_step hB_ hb); have n2_ := Aside0.mk (hbox); have n3_ := Aside0.mk ((by rw [hg]; exact (below_size hB_) : w.heap.size ≤ gb105)); have n4_ := Aside0.mk ((by rw [hg]; exact (below_size hB_) : w.heap.size ≤ gb105)); clear HO0_0; clear HB; have HO0_0 := n0_; have HB := n1_; have BK105 := n2_; have GW105 := n3_; have GE105 := n4_; clear n0_ n1_ n2_ n3_ n4_; clear hb hbox hg) | ((with_reducible refine gate_dst (N := 2) rfl ?_); refine box_event ?hg (N := 2) ?hd (cs := #[.slice none 0 0, .int .i64 0]) (t := 27) ?hr ?_; (case hd => rfl); (case hg => rfl); (case hr => first | (go_simp; done) | (go_simp; rfl)); intro gb106 hg w4 hbox hb; have n0_ := Aside0.mk (Kd.V_below (Kd.V_elderB (by (with_reducible repeat (first | apply Kd.V_alloc | apply Kd.V_drewN | apply Kd.V_drew)); exact HO0_0.out) gb106 (Nat.le_of_eq hg.symm)) hb); have n1_ := Aside0.mk (blk_below (g := gb105) (o := .cells #[.slice A0_0 l0_0.length c0_0, .int .i64 a0_1] 27 (0, 0)) (by (with_reducible repeat (first | refine blk_drewN ?_ _ | refine blk_drew ?_ | refine blk_alloc ?_ _)); exact BK105.out) hb); have n2_ := Aside0.mk (below_step (by repeat (first | (with_reducible first | exact HB.out | apply below_alloc | apply pw_below_drewN | apply below_drew1 | refine below_set ?_ GE105.out) | exact HB.out)) hb); have n3_ := Aside0.mk (hbox); have n4_ := Aside0.mk ((by rw [hg]; exact (below_size (by repeat (first | (with_reducible first | exact HB.out | apply below_alloc | apply pw_below_drewN | apply below_drew1 | refine below_set ?_ GE105.out) | exact HB.out))) : w.heap.size ≤ gb106)); have n5_ := Aside0.mk ((by rw [hg]; exact (below_size (by repeat (first | (with_reducible first | exact HB.out | apply below_alloc | apply pw_below_drewN | apply below_drew1 | refine below_set ?_ GE105.out) | exact HB.out))) : w.heap.size ≤ gb106)); have n6_ := Aside0.mk ((by rw [hg]; exact Nat.ne_of_lt (blk_lt (g := gb105) (o := .cells #[.slice A0_0 l0_0.length c0_0, .int .i64 a0_1] 27 (0, 0)) (by (with_reducible repeat (first | refine blk_drewN ?_ _ | refine blk_drew ?_ | refine blk_alloc ?_ _)); exact BK105.out)) : gb105 ≠ gb106)); have n7_ := Aside0.mk ((by rw [hg]; exact Nat.ne_of_gt (blk_lt (g := gb105) (o := .cells #[.slice A0_0 l0_0.length c0_0, .int .i64 a0_1] 27 (0, 0)) (by (with_reducible repeat (first | refine blk_drewN ?_ _ | refine blk_drew ?_ | refine blk_alloc ?_ _)); exact BK105.out)) : gb106 ≠ gb105)); clear HO0_0; clear BK105; clear HB; have HO0_0 := n0_; have BK105 := n1_; have HB := n2_; have BK106 := n3_; have GW106 := n4_; have GE106 := n5_; have NB105_106 := n6_; have NB106_105 := n7_; clear n0_ n1_ n2_ n3_ n4_ n5_ n6_ n7_; clear hb hbox hg; have hnb5 := NB105_106.out; have hnc5 := NB106_105.out; have hcz6_0 : w4.cell? ⟨gb105, 0, none⟩ = some (.slice A0_0 l0_0.length c0_0) := (blk_cell BK105.out 0).trans rfl; have hcz6_1 : w4.cell? ⟨gb105, 1, none⟩ = some (.int .i64 a0_1) := (blk_cell BK105.out 1).trans rfl; have hfz6_0 := blk_frozen BK105.out 0; have hfz6_1 := blk_frozen BK105.out 1) | ((with_reducible refine gate_callee (f := 71) rfl ?_); refine goesL_ (some 8) rfl rfl Try.func71 (by kernel_rfl) rfl #[.agg #[.slice A0_0 l0_0.length c0_0, .int .i64 a0_1], .int .i64 a0_1] rfl mD_ ?_; (with_reducible refine (chamberlainref04_At.calls _ _ l0_0 a0_1 a0_1 t107 _ ?side1 ?side2 A2.out).mono ?_); (case side1 => repeat (first | exact (Kd.V_reads' HO0_0.out).2.2 | (with_reducible refine Kd.C_alloc ?_ _) | (with_reducible refine Kd.C_drewN ?_ _) | (with_reducible refine Kd.C_drew ?_))); (case side2 => exact (Kd.V_reads' HO0_0.out).2.1); rintro e w7 ⟨rfl, hb⟩; refine ⟨_, rfl, ?_⟩; have n0_ := Aside0.mk (Kd.V_below (by (with_reducible repeat (first | apply Kd.V_alloc | apply Kd.V_drewN | apply Kd.V_drew)); exact HO0_0.out) hb); have n1_ := Aside0.mk (blk_below (g := gb105) (o := .cells #[.slice A0_0 l0_0.length c0_0, .int .i64 a0_1] 27 (0, 0)) (by (with_reducible repeat (first | refine blk_drewN ?_ _ | refine blk_drew ?_ | refine blk_alloc ?_ _)); exact BK105.out) hb); have n2_ := Aside0.mk (blk_below (g := gb106) (o := .cells #[.slice none 0 0, .int .i64 0] 27 (0, 0)) (by (with_reducible repeat (first | refine blk_drewN ?_ _ | refine blk_drew ?_ | refine blk_alloc ?_ _)); exact BK106.out) hb); have n3_ := Aside0.mk (below_step (by repeat (first | (with_reducible first | exact HB.out | apply below_alloc | apply pw_below_drewN | apply below_drew1 | refine below_set ?_ GE105.out | refine below_set ?_ GE106.out) | exact HB.out)) hb); clear HO0_0; clear BK105; clear BK106; clear HB; have HO0_0 := n0_; have BK105 := n1_; have BK106 := n2_; have HB := n3_; clear n0_ n1_ n2_ n3_; (try clear hb); (try clear hb2); (try clear hk); (try clear hi); have hcz8_0 : w7.cell? ⟨gb105, 0, none⟩ = some (.slice A0_0 l0_0.length c0_0) := (blk_cell BK105.out 0).trans rfl; have hcz8_1 : w7.cell? ⟨gb105, 1, none⟩ = some (.int .i64 a0_1) := (blk_cell BK105.out 1).trans rfl; have hfz8_0 := blk_frozen BK105.out 0; have hfz8_1 := blk_frozen BK105.out 1; have hcz9_0 : w7.cell? ⟨gb106, 0, none⟩ = some (.slice none 0 0) := (blk_cell BK106.out 0).trans rfl; have hcz9_1 : w7.cell? ⟨gb106, 1, none⟩ = some (.int .i64 0) := (blk_cell BK106.out 1).trans rfl; have hfz9_0 := blk_frozen BK106.out 0; have hfz9_1 := blk_frozen BK106.out 1))
 refine bodyPost_ret (results_ct rfl _ _ gb106 27 #[.slice A0_0 l0_0.length c0_0, .int .i64 (wrap64 (a0_1 + 1))] (0, 0) _ rfl (by (with_reducible repeat (first | refine blk_drewN ?_ _ | refine blk_drew ?_ | refine blk_alloc ?_ _)); refine blk_put (cs := #[.slice A0_0 l0_0.length c0_0, .int .i64 0]) ?_ 1 _ rfl; (with_reducible repeat (first | refine blk_drewN ?_ _ | refine blk_drew ?_ | refine blk_alloc ?_ _)); refine blk_put (cs := #[.slice none 0 0, .int .i64 0]) ?_ 0 _ rfl; (with_reducible repeat (first | refine blk_drewN ?_ _ | refine blk_drew ?_ | refine blk_alloc ?_ _)); refine blk_far ?_ NB106_105.out _; (with_reducible repeat (first | refine blk_drewN ?_ _ | refine blk_drew ?_ | refine blk_alloc ?_ _)); exact BK106.out) Try.underlying27 rfl (by kernel_rfl)) rfl ?_
 exact ⟨_, eW_, by (with_reducible repeat (first | apply Kd.V_alloc | apply Kd.V_drewN | apply Kd.V_drew)); exact Kd.V_mono (Kd.V_far (p := ⟨gb106, 1, none⟩) (Kd.V_far (p := ⟨gb106, 0, none⟩) (Kd.V_far (p := ⟨gb105, 1, none⟩) (Kd.V_mono (Kd.V_mono HO0_0.out (fun k_ hk => (⟨hk, hk.1.2⟩ : _ ∧ k_ ≠ gb105))) (fun k_ hk => (⟨hk, hk.1.2⟩ : _ ∧ k_ ≠ gb106))) (fun _ hk => hk.1.2) (.int .i64 (wrap64 (a0_1 + 1)))) (fun _ hk => hk.2) (.slice A0_0 l0_0.length c0_0)) (fun _ hk => hk.2) (.int .i64 (wrap64 (a0_1 + 1)))) (fun _ hk => hk.1.1.1.1), by repeat (first | (with_reducible first | exact HB.out | apply below_alloc | apply pw_below_drewN | apply below_drew1 | refine below_set ?_ GE105.out | refine below_set ?_ GE106.out) | exact HB.out)⟩

/-! ### chamberlainref10_New: function 36 -/
def chamberlainref10_New.l0 : Nat → Int → List (S55) → Int → List Int → Int → Option ((List (S55)) × List Int × Int)
 | 0, _, _, _, _, _ => none
 | k + 1, x0, x6, x7, x109000, x109001 => if x7 ≤ x0 then ((chamberlainref04_Take.f x109000 x109001).bind fun bt113 => (if x6.length < 1954687338268 then (chamberlainref10_New.l0 k x0 (x6 ++ [(⟨(x7) % 4294967296, bt113.2.2, 0, ([] : List Int), ([] : List (S113)), false⟩ : S55)]) (wrap64 (x7 + 1)) bt113.1 bt113.2.1) else (none))) else (some (x6, x109000, x109001))
def chamberlainref10_New.f (k : Nat) (a0 : Int) (l1_0 : List Int) (a1_1 : Int) : Option ((List (S55)) × List Int × Int) := chamberlainref10_New.l0 k a0 (([(⟨0, 0, 0, ([] : List Int), ([] : List (S113)), false⟩ : S55)] : List (S55))) 1 l1_0 a1_1
set_option maxHeartbeats 8000000 in
set_option maxRecDepth 100000 in
theorem chamberlainref10_New.calls (k : Nat) (a0 : Int) (P1_0_ : Nat → Prop) (A1_0 : Option Addr) (c1_0 : Nat) (l1_0 : List Int) (a1_1 : Int) (r1 : List (S55)) (r2 : List Int) (r3 : Int) (w : World) (hs1_0 : Kd.V (Kd.int .u32) 22 w w.heap.size (fun k_ => P1_0_ k_) (.slice A1_0 l1_0.length c1_0) l1_0) (h : chamberlainref10_New.f k a0 l1_0 a1_1 = some (r1, r2, r3)) :
  Calls Try.prog 36 #[.int .i64 a0, .agg #[.slice A1_0 l1_0.length c1_0, .int .i64 a1_1]] w fun e w' => ∃ v0_ v1_ : Value, e = .returned (.tuple #[v0_, .agg #[v1_, .int .i64 r3]]) ∧ Kd.S k55 55 w' w.heap.size (fun k_ => (w.heap.size ≤ k_)) v0_ r1 ∧ Kd.V (Kd.int .u32) 22 w' w.heap.size (fun k_ => (P1_0_ k_ ∨ w.heap.size ≤ k_) ∧ some k_ ≠ (v0_ : Value).ownBlock) v1_ r2 ∧ Below w.heap.size w w' := by
 have hu27 := Try.underlying27
 have hu55 := Try.underlying55
 have HO1_0 := Aside0.mk (show Kd.V (Kd.int .u32) 22 w w.heap.size (fun k_ => (P1_0_ k_ ∨ w.heap.size ≤ k_)) (.slice A1_0 l1_0.length c1_0) l1_0 from Kd.V_mono hs1_0 (fun k_ hk => .inl hk))
 have HB := Aside0.mk (Below.refl w.heap.size w)
 have H : (chamberlainref10_New.l0 k a0 (([(⟨0, 0, 0, ([] : List Int), ([] : List (S113)), false⟩ : S55)] : List (S55))) 1 l1_0 a1_1) = some (r1, r2, r3) := h
 clear h
 obtain ⟨y110, hy110⟩ : ∃ y_ : List (S55), y_ = (([(⟨0, 0, 0, ([] : List Int), ([] : List (S113)), false⟩ : S55)] : List (S55))) := ⟨_, rfl⟩
 replace H : (chamberlainref10_New.l0 k a0 y110 1 l1_0 a1_1) = some (r1, r2, r3) := by first | (rw [hy110]; with_reducible exact H) | (have H2_ := (Option.bind_some _ _).symm.trans H; rw [hy110]; with_reducible exact H2_) | (have H2_ := (Option.bind_some _ _).symm.trans H; with_reducible exact H2_) | with_reducible exact H | (rw [hy110]; exact H) | exact H
 have Ny110 := Aside0.mk hy110
 clear hy110
 have H' := Aside0.mk H
 clear H
 go_enter Try.func36, Try.ntmps36
 go_wp2_with (first | ((with_reducible refine gate_dst (N := 3) rfl ?_); refine box_event ?hg (N := 3) ?hd (cs := #[.slice A1_0 l1_0.length c1_0, .int .i64 a1_1]) (t := 27) ?hr ?_; (case hd => rfl); (case hg => rfl); (case hr => first | (go_simp; done) | (go_simp; rfl)); intro gb108 hg w3 hbox hb; have n0_ := Aside0.mk (ve_ HO1_0.out gb108 hg hb); have n1_ := Aside0.mk (bs_ hb); have n2_ := Aside0.mk (hbox); have n4_ := Aside0.mk ((ge_ hg : w.heap.size ≤ gb108)); clear HO1_0 HB; have HO1_0 := n0_; have HB := n1_; have BK108 := n2_; have GE108 := n4_; clear n0_ n1_ n2_ n4_; clear hb hbox hg) | ((with_reducible refine gate_dst (N := 5) rfl ?_); refine box_event ?hg (N := 5) ?hd (cs := #[.slice none 0 0, .int .i64 0]) (t := 27) ?hr ?_; (case hd => rfl); (case hg => rfl); (case hr => first | (go_simp; done) | (go_simp; rfl)); intro gb109 hg w4 hbox hb; have n0_ := Aside0.mk (ve_ HO1_0.out gb109 hg hb); have n1_ := Aside0.mk (bb_ BK108.out hb); have n2_ := Aside0.mk (bs_ hb); have n3_ := Aside0.mk (hbox); have n5_ := Aside0.mk ((ge_ hg : w.heap.size ≤ gb109)); have n6_ := Aside0.mk ((by rw [hg]; exact Nat.ne_of_lt (blk_lt (g := gb108) (o := .cells #[.slice A1_0 l1_0.length c1_0, .int .i64 a1_1] 27 (0, 0)) (by (with_reducible repeat (first | refine blk_drewN ?_ _ | refine blk_drew ?_ | refine blk_alloc ?_ _)); exact BK108.out)) : gb108 ≠ gb109)); have n7_ := Aside0.mk ((by rw [hg]; exact Nat.ne_of_gt (blk_lt (g := gb108) (o := .cells #[.slice A1_0 l1_0.length c1_0, .int .i64 a1_1] 27 (0, 0)) (by (with_reducible repeat (first | refine blk_drewN ?_ _ | refine blk_drew ?_ | refine blk_alloc ?_ _)); exact BK108.out)) : gb109 ≠ gb108)); clear HO1_0 BK108 HB; have HO1_0 := n0_; have BK108 := n1_; have HB := n2_; have BK109 := n3_; have GE109 := n5_; have NB108_109 := n6_; have NB109_108 := n7_; clear n0_ n1_ n2_ n3_ n5_ n6_ n7_; clear hb hbox hg) | ((with_reducible refine gate_dst (N := 11) rfl ?_); refine Kd.S_lit k55 _ 55 ?hg (N := 11) ?hd (xs := ([(⟨0, 0, 0, ([] : List Int), ([] : List (S113)), false⟩ : S55)] : List (S55))) (inner := [.int .u32 0, .int .u32 0, .int .u32 0, .slice none 0 0, .slice none 0 0, .bool false]) (ok := fun _ => True) (okp := fun _ => True) ?hr ?hp (fun _ hk => hk) trivial (Below.refl _ _) (Nat.le_refl _) (by simp) ?_; (case hd => rfl); (case hg => rfl); (case hr => first | (go_simp; done) | (go_simp; rfl)); (case hp => exact (Reps.c6 (show Kd.M k55 _ _ _ (⟨0, 0, 0, ([] : List Int), ([] : List (S113)), false⟩ : S55) [.int .u32 0, .int .u32 0, .int .u32 0, .slice none 0 0, .slice none 0 0, .bool false] from (k55_mkM _ _ _ (⟨0, 0, 0, ([] : List Int), ([] : List (S113)), false⟩ : S55) (Kd.R_nil _ _ _ _ _) (Kd.R_nil _ _ _ _ _))) (Reps.none _ _))); intro v111 w5 ho6 hb hg_ hnew_; clear hg_ hnew_; (first | rw [← Ny110.out] at ho6 | (simp only [Int.reduceToNat] at ho6; rw [← Ny110.out] at ho6)); have n0_ := Aside0.mk (vf_ HO1_0.out (Kd.S_base ho6) hb); have n1_ := Aside0.mk (Kd.S_lower (Kd.S_newM (M := fun k_ => (w.heap.size ≤ k_)) ho6 (below_size (by repeat (first | (with_reducible first | exact HB.out | apply below_alloc | apply pw_below_drewN | apply below_drew1 | refine below_set ?_ GE108.out | refine below_set ?_ GE109.out) | exact HB.out))) (fun k_ h_ => h_)) (below_size (by repeat (first | (with_reducible first | exact HB.out | apply below_alloc | apply pw_below_drewN | apply below_drew1 | refine below_set ?_ GE108.out | refine below_set ?_ GE109.out) | exact HB.out)))); have n2_ := Aside0.mk (bb_ BK108.out hb); have n3_ := Aside0.mk (bb_ BK109.out hb); have n4_ := Aside0.mk (bs_ hb); clear HO1_0 BK108 BK109 HB; have HO1_0 := n0_; have HO112 := n1_; have BK108 := n2_; have BK109 := n3_; have HB := n4_; clear n0_ n1_ n2_ n3_ n4_; clear hb ho6))
 go_loopg [6, 7] k (fun kq v6 v7 w' => ∃ (x6_1 : List (S55)) (x7_1 : Int) (x109000_1 : List Int) (x109001_1 : Int) (u109000 : Value), v7 = .int .i64 x7_1 ∧ Aside0 (chamberlainref10_New.l0 kq a0 x6_1 x7_1 x109000_1 x109001_1 = some (r1, r2, r3)) ∧ Aside0 (kq ≤ k) ∧ Aside0 (Kd.S k55 55 w' w.heap.size (fun k_ => (w.heap.size ≤ k_)) v6 x6_1) ∧ Aside0 (Kd.V (Kd.int .u32) 22 w' w.heap.size (fun k_ => (P1_0_ k_ ∨ w.heap.size ≤ k_) ∧ some k_ ≠ (v6 : Value).ownBlock ∧ k_ ≠ gb108 ∧ k_ ≠ gb109) u109000 x109000_1) ∧ Aside0 (w'.heap[gb108]? = some (.cells #[u109000, .int .i64 x109001_1] 27 (0, 0))) ∧ Aside0 (w'.heap[gb109]? = some (.cells #[(.slice none 0 0), .int .i64 0] 27 (0, 0))) ∧ Aside0 (Below w.heap.size w w'))
 case atStart => exact ⟨(y110), (1), (l1_0), (a1_1), (.slice A1_0 l1_0.length c1_0), sD_, H', ⟨Nat.le_refl _⟩, ⟨by (with_reducible repeat (first | apply Kd.S_alloc | apply Kd.S_drewN | apply Kd.S_drew)); exact Kd.S_mono HO112.out (fun _ hk => hk.1)⟩, ⟨by (with_reducible repeat (first | apply Kd.V_alloc | apply Kd.V_drewN | apply Kd.V_drew)); exact Kd.V_mono HO1_0.out (fun _ hk => ⟨hk.1.1.1, ⟨hk.2, ⟨hk.1.1.2, hk.1.2⟩⟩⟩)⟩, ⟨by (with_reducible repeat (first | refine blk_drewN ?_ _ | refine blk_drew ?_ | refine blk_alloc ?_ _)); exact BK108.out⟩, ⟨by (with_reducible repeat (first | refine blk_drewN ?_ _ | refine blk_drew ?_ | refine blk_alloc ?_ _)); exact BK109.out⟩, ⟨by repeat (first | (with_reducible first | exact HB.out | apply below_alloc | apply pw_below_drewN | apply below_drew1 | refine below_set ?_ GE108.out | refine below_set ?_ GE109.out) | exact HB.out)⟩⟩
 case round =>
  clear H'
  try clear c1
  try clear p2
  try clear c3
  try clear c6
  obtain ⟨x6_1, x7_1, x109000_1, x109001_1, u109000, rfl, HA, HK1, HO_6, HO_109000, BK108, BK109, HB⟩ := hrel
  cases gk with
  | zero => exact absurd HA.out (by simp [chamberlainref10_New.l0])
  | succ k1 =>
   have H := HA.out
   clear HA
   simp only [chamberlainref10_New.l0] at H
   by_cases c7 : x7_1 ≤ a0
   ·
    rw [if_pos c7] at H
    have c7b0 : decide (x7_1 ≤ a0) = true := decide_eq_true c7
    clear c7
    replace H := Option.bind_eq_some_iff.mp H
    obtain ⟨⟨t113, t116, t117⟩, A80, H⟩ := H
    replace H : (if x6_1.length < 1954687338268 then (chamberlainref10_New.l0 k1 a0 (x6_1 ++ [(⟨(x7_1) % 4294967296, t117, 0, ([] : List Int), ([] : List (S113)), false⟩ : S55)]) (wrap64 (x7_1 + 1)) t113 t116) else (none)) = some (r1, r2, r3) := H
    have A8 := Aside0.mk A80
    clear A80
    by_cases c9 : x6_1.length < 1954687338268
    ·
     rw [if_pos c9] at H
     have LMc9 := Aside0.mk c9
     clear c9
     obtain ⟨y119, hy119⟩ : ∃ y_ : List (S55), y_ = (x6_1 ++ [(⟨(x7_1) % 4294967296, t117, 0, ([] : List Int), ([] : List (S113)), false⟩ : S55)]) := ⟨_, rfl⟩
     replace H : (chamberlainref10_New.l0 k1 a0 y119 (wrap64 (x7_1 + 1)) t113 t116) = some (r1, r2, r3) := by first | (rw [hy119]; with_reducible exact H) | (have H2_ := (Option.bind_some _ _).symm.trans H; rw [hy119]; with_reducible exact H2_) | (have H2_ := (Option.bind_some _ _).symm.trans H; with_reducible exact H2_) | with_reducible exact H | (rw [hy119]; exact H) | exact H
     have Ny119 := Aside0.mk hy119
     clear hy119
     have H' := Aside0.mk H
     clear H
     have hnb10 := NB108_109.out
     have hnc10 := NB109_108.out
     have ⟨hcz11_0, hcz11_1⟩ := cz2_ BK108.out
     have ⟨hfz11_0, hfz11_1⟩ := fz2_ BK108.out
     obtain ⟨Ao12, co12, eo12⟩ := Kd.V_slice HO_109000.out
     subst eo12
     go_wp2_with (first | ((with_reducible refine gate_callee (f := 55) rfl ?_); refine goesL_ (some 19) rfl rfl Try.func55 (by kernel_rfl) rfl #[.agg #[.slice Ao12 x109000_1.length co12, .int .i64 x109001_1]] rfl mD_ ?_; (with_reducible refine (chamberlainref04_Take.calls (fun k_ => ((P1_0_ k_ ∨ w.heap.size ≤ k_) ∧ (some k_ ≠ (u6 : Value).ownBlock ∧ (k_ ≠ gb108 ∧ k_ ≠ gb109)))) _ _ x109000_1 x109001_1 t113 t116 t117 _ ?side1 A8.out).mono ?_); (case side1 => exact HO_109000.out); rintro e w13 ⟨v114, rfl, ho0, hb⟩; refine ⟨_, rfl, ?_⟩; have n0_ := Aside0.mk (sb_ HO_6.out hb); have n2_ := Aside0.mk (Kd.V_lower (Kd.V_mono (ok' := fun k_ => (P1_0_ k_ ∨ w.heap.size ≤ k_) ∧ some k_ ≠ (u6 : Value).ownBlock ∧ k_ ≠ gb108 ∧ k_ ≠ gb109) ho0 (fun k_ hk_ => ⟨Or.elim hk_ (fun hs_ => hs_.1) (fun hn_ => (.inr (Nat.le_trans (below_size (by repeat (first | (with_reducible first | exact HB.out | apply below_alloc | apply pw_below_drewN | apply below_drew1 | refine below_set ?_ GE108.out | refine below_set ?_ GE109.out) | exact HB.out))) hn_))), Or.elim hk_ (fun hs_ => hs_.2.1) (fun hn_ => (Kd.fresh' (Kd.S_lt (by (with_reducible repeat (first | apply Kd.S_alloc | apply Kd.S_drewN | apply Kd.S_drew)); exact HO_6.out)) k_ hn_)), Or.elim hk_ (fun hs_ => hs_.2.2.1) (fun hn_ => (fb_ BK108.out k_ hn_)), Or.elim hk_ (fun hs_ => hs_.2.2.2) (fun hn_ => (fb_ BK109.out k_ hn_))⟩)) (below_size (by repeat (first | (with_reducible first | exact HB.out | apply below_alloc | apply pw_below_drewN | apply below_drew1 | refine below_set ?_ GE108.out | refine below_set ?_ GE109.out) | exact HB.out)))); have n3_ := Aside0.mk (bb_ BK108.out hb); have n4_ := Aside0.mk (bb_ BK109.out hb); have n5_ := Aside0.mk (bs_ hb); clear HO_6 HO_109000 BK108 BK109 HB; have HO_6 := n0_; have HO115 := n2_; have BK108 := n3_; have BK109 := n4_; have HB := n5_; clear n0_ n2_ n3_ n4_ n5_; (try clear hb); (try clear hb2); (try clear hk); (try clear hi); (try clear ho0)) | ((with_reducible refine gate_dst (N := 8) rfl ?_); refine box_event ?hg (N := 8) ?hd (cs := #[.slice none 0 0, .int .i64 0]) (t := 27) ?hr ?_; (case hd => rfl); (case hg => rfl); (case hr => first | (go_simp; done) | (go_simp; rfl)); intro gb118 hg w14 hbox hb; have n0_ := Aside0.mk (sb_ HO_6.out hb); have n2_ := Aside0.mk (ve_ HO115.out gb118 hg hb); have n3_ := Aside0.mk (bb_ BK108.out hb); have n4_ := Aside0.mk (bb_ BK109.out hb); have n5_ := Aside0.mk (bs_ hb); have n6_ := Aside0.mk (hbox); have n8_ := Aside0.mk ((ge_ hg : w.heap.size ≤ gb118)); have n9_ := Aside0.mk ((by rw [hg]; exact Nat.ne_of_lt (blk_lt (g := gb108) (o := .cells #[.slice Ao12 x109000_1.length co12, .int .i64 x109001_1] 27 (0, 0)) (by (with_reducible repeat (first | refine blk_drewN ?_ _ | refine blk_drew ?_ | refine blk_alloc ?_ _)); exact BK108.out)) : gb108 ≠ gb118)); have n10_ := Aside0.mk ((by rw [hg]; exact Nat.ne_of_gt (blk_lt (g := gb108) (o := .cells #[.slice Ao12 x109000_1.length co12, .int .i64 x109001_1] 27 (0, 0)) (by (with_reducible repeat (first | refine blk_drewN ?_ _ | refine blk_drew ?_ | refine blk_alloc ?_ _)); exact BK108.out)) : gb118 ≠ gb108)); have n11_ := Aside0.mk ((by rw [hg]; exact Nat.ne_of_lt (blk_lt (g := gb109) (o := .cells #[.slice none 0 0, .int .i64 0] 27 (0, 0)) (by (with_reducible repeat (first | refine blk_drewN ?_ _ | refine blk_drew ?_ | refine blk_alloc ?_ _)); exact BK109.out)) : gb109 ≠ gb118)); have n12_ := Aside0.mk ((by rw [hg]; exact Nat.ne_of_gt (blk_lt (g := gb109) (o := .cells #[.slice none 0 0, .int .i64 0] 27 (0, 0)) (by (with_reducible repeat (first | refine blk_drewN ?_ _ | refine blk_drew ?_ | refine blk_alloc ?_ _)); exact BK109.out)) : gb118 ≠ gb109)); clear HO_6 HO115 BK108 BK109 HB; have HO_6 := n0_; have HO115 := n2_; have BK108 := n3_; have BK109 := n4_; have HB := n5_; have BK118 := n6_; have GE118 := n8_; have NB108_118 := n9_; have NB118_108 := n10_; have NB109_118 := n11_; have NB118_109 := n12_; clear n0_ n2_ n3_ n4_ n5_ n6_ n8_ n9_ n10_ n11_ n12_; clear hb hbox hg; obtain ⟨Ao15, co15, eo15⟩ := Kd.V_slice HO115.out; subst eo15; have hnb16 := NB118_108.out; have hnc16 := NB108_118.out; have hnb17 := NB118_109.out; have hnc17 := NB109_118.out; have ⟨hcz18_0, hcz18_1⟩ := cz2_ BK118.out; have ⟨hfz18_0, hfz18_1⟩ := fz2_ BK118.out; have ⟨hcz19_0, hcz19_1⟩ := cz2_ BK108.out; have ⟨hfz19_0, hfz19_1⟩ := fz2_ BK108.out) | ((with_reducible refine gate_builtin (b := .append) (xs := #[.tmp 23, .tmp 28]) rfl ?_); at_builtin; refine Kd.S_append k55 (w0 := w) w.heap.size rfl (.tmp 23) (.tmp 28) 35 55 (.agg #[(.int .u32 0), (.int .u32 0), (.int .u32 0), (.slice none 0 0), (.slice none 0 0), (.bool false)]) 72 rfl Try.underlying35 info55 rfl (by decide) (by omega) u6 x6_1 (⟨(x7_1) % 4294967296, t117, 0, ([] : List Int), ([] : List (S113)), false⟩ : S55) [.int .u32 ((x7_1) % 4294967296), .int .u32 t117, .int .u32 0, .slice none 0 0, .slice none 0 0, .bool false] (fun k_ => (w.heap.size ≤ k_)) (fun _ => False) rfl (by first | (go_simp; done) | (go_simp; rfl)) ?aP (fun k_ hk_ => hk_.elim) ?aF ?aO ?aB ?aS ?aL ?_; (case aP => exact k55_mkM _ _ _ (⟨(x7_1) % 4294967296, t117, 0, ([] : List Int), ([] : List (S113)), false⟩ : S55) (Kd.R_nil _ _ _ _ _) (Kd.R_nil _ _ _ _ _)); (case aB => exact (by repeat (first | (with_reducible first | exact HB.out | apply below_alloc | apply pw_below_drewN | apply below_drew1 | refine below_set ?_ GE108.out | refine below_set ?_ GE109.out | refine below_set ?_ GE118.out) | exact HB.out))); (case aF => exact (fun k_ hk => (Nat.le_trans (below_size (by repeat (first | (with_reducible first | exact HB.out | apply below_alloc | apply pw_below_drewN | apply below_drew1 | refine below_set ?_ GE108.out | refine below_set ?_ GE109.out | refine below_set ?_ GE118.out) | exact HB.out))) hk))); (case aO => exact (by (with_reducible repeat (first | apply Kd.S_alloc | apply Kd.S_drewN | apply Kd.S_drew)); exact Kd.S_mono (s2_ (g := gb108) (Kd.S_far (p := ⟨gb118, 1, none⟩) (Kd.S_far (p := ⟨gb118, 0, none⟩) (Kd.S_types (Kd.S_types HO_6.out BK118.out (by decide)) BK108.out (by decide)) (fun _ hk => hk.1.2) (.slice Ao15 t113.length co15)) (fun _ hk => hk.1.2) (.int .i64 t116))) (fun k_ hk => ⟨hk.1.1, fun e_ => e_⟩))); (case aS => exact (below_size (by repeat (first | (with_reducible first | exact HB.out | apply below_alloc | apply pw_below_drewN | apply below_drew1 | refine below_set ?_ GE108.out | refine below_set ?_ GE109.out | refine below_set ?_ GE118.out) | exact HB.out)))); (case aL => have := LMc9.out; omega); intro v120 w20 ho hb hg hat; rw [← Ny119.out] at ho; have n1_ := Aside0.mk (blk_grown (g := gb108) (o := .cells #[.slice Ao15 t113.length co15, .int .i64 t116] 27 (0, 0)) (by (with_reducible repeat (first | refine blk_drewN ?_ _ | refine blk_drew ?_ | refine blk_alloc ?_ _)); refine blk_put (cs := #[.slice Ao15 t113.length co15, .int .i64 x109001_1]) ?_ 1 _ rfl; (with_reducible repeat (first | refine blk_drewN ?_ _ | refine blk_drew ?_ | refine blk_alloc ?_ _)); refine blk_put (cs := #[.slice Ao12 x109000_1.length co12, .int .i64 x109001_1]) ?_ 0 _ rfl; (with_reducible repeat (first | refine blk_drewN ?_ _ | refine blk_drew ?_ | refine blk_alloc ?_ _)); refine blk_far ?_ NB108_118.out _; (with_reducible repeat (first | refine blk_drewN ?_ _ | refine blk_drew ?_ | refine blk_alloc ?_ _)); refine blk_far ?_ NB108_118.out _; (with_reducible repeat (first | refine blk_drewN ?_ _ | refine blk_drew ?_ | refine blk_alloc ?_ _)); exact BK108.out) hg (Kd.S_ne HO_6.out BK108.out (by decide))); have n2_ := Aside0.mk (blk_grown (g := gb109) (o := .cells #[.slice none 0 0, .int .i64 0] 27 (0, 0)) (by (with_reducible repeat (first | refine blk_drewN ?_ _ | refine blk_drew ?_ | refine blk_alloc ?_ _)); refine blk_far ?_ NB109_108.out _; (with_reducible repeat (first | refine blk_drewN ?_ _ | refine blk_drew ?_ | refine blk_alloc ?_ _)); refine blk_far ?_ NB109_108.out _; (with_reducible repeat (first | refine blk_drewN ?_ _ | refine blk_drew ?_ | refine blk_alloc ?_ _)); refine blk_far ?_ NB109_118.out _; (with_reducible repeat (first | refine blk_drewN ?_ _ | refine blk_drew ?_ | refine blk_alloc ?_ _)); refine blk_far ?_ NB109_118.out _; (with_reducible repeat (first | refine blk_drewN ?_ _ | refine blk_drew ?_ | refine blk_alloc ?_ _)); exact BK109.out) hg (Kd.S_ne HO_6.out BK109.out (by decide))); have n3_ := Aside0.mk (Kd.V_afterv (ok := (fun k_ => (P1_0_ k_ ∨ w.heap.size ≤ k_) ∧ k_ ≠ gb108 ∧ k_ ≠ gb109 ∧ k_ ≠ gb118)) (by (with_reducible repeat (first | apply Kd.V_alloc | apply Kd.V_drewN | apply Kd.V_drew)); exact Kd.V_mono (v2_ (g := gb108) (Kd.V_far (p := ⟨gb118, 1, none⟩) (Kd.V_far (p := ⟨gb118, 0, none⟩) (Kd.V_mono (Kd.V_mono HO115.out (fun k_ hk => (⟨hk, hk.2⟩ : _ ∧ k_ ≠ gb118))) (fun k_ hk => (⟨hk, hk.1.1.2.2.1⟩ : _ ∧ k_ ≠ gb108))) (fun _ hk => hk.1.2) (.slice Ao15 t113.length co15)) (fun _ hk => hk.1.2) (.int .i64 t116))) (fun _ hk => ⟨⟨hk.1.1.1.1, ⟨hk.1.1.1.2.2.1, ⟨hk.1.1.1.2.2.2, hk.1.1.2⟩⟩⟩, hk.1.1.1.2.1⟩)) hg hat); have n5_ := Aside0.mk (hb); have n6_ := Aside0.mk (ho); clear BK108 BK109 HO115 BK118 HB HO_6; have BK108 := n1_; have BK109 := n2_; have HO115 := n3_; have HB := n5_; have HO121 := n6_; clear n1_ n2_ n3_ n5_ n6_; clear ho hb hg hat))
     go_roundg k1
     case measure => have := HK1.out; omega
     case rel => exact ⟨(y119), (wrap64 (x7_1 + 1)), (t113), (t116), (.slice Ao15 t113.length co15), sD_, H', ⟨by have := HK1.out; omega⟩, ⟨by (with_reducible repeat (first | apply Kd.S_alloc | apply Kd.S_drewN | apply Kd.S_drew)); exact HO121.out⟩, ⟨by (with_reducible repeat (first | apply Kd.V_alloc | apply Kd.V_drewN | apply Kd.V_drew)); exact Kd.V_mono HO115.out (fun _ hk => ⟨hk.1.1, ⟨hk.2, ⟨hk.1.2.1, hk.1.2.2.1⟩⟩⟩)⟩, ⟨by (with_reducible repeat (first | refine blk_drewN ?_ _ | refine blk_drew ?_ | refine blk_alloc ?_ _)); exact BK108.out⟩, ⟨by (with_reducible repeat (first | refine blk_drewN ?_ _ | refine blk_drew ?_ | refine blk_alloc ?_ _)); exact BK109.out⟩, ⟨by repeat (first | (with_reducible first | exact HB.out | apply below_alloc | apply pw_below_drewN | apply below_drew1 | refine below_set ?_ GE108.out | refine below_set ?_ GE109.out | refine below_set ?_ GE118.out) | exact HB.out)⟩⟩
    ·
     rw [if_neg c9] at H
     exact absurd H (by simp)
   ·
    rw [if_neg c7] at H
    have c7b0 : decide (x7_1 ≤ a0) = false := decide_eq_false c7
    clear c7
    simp only [Option.some.injEq, Prod.mk.injEq] at H
    obtain ⟨rfl, rfl, rfl⟩ := H
    try go_wp2
    have n0_ := Aside0.mk (Kd.S_drew HO_6.out)
    have n1_ := Aside0.mk (Kd.V_drew HO_109000.out)
    have n2_ := Aside0.mk (blk_drew BK108.out)
    have n3_ := Aside0.mk (blk_drew BK109.out)
    have n4_ := Aside0.mk (below_drew1 HB.out)
    clear HO_6 HO_109000 BK108 BK109 HB
    have HO_6 := n0_
    have HO_109000 := n1_
    have BK108 := n2_
    have BK109 := n3_
    have HB := n4_
    clear n0_ n1_ n2_ n3_ n4_
    obtain ⟨Ao22, co22, eo22⟩ := Kd.V_slice HO_109000.out
    (first | subst eo22 | (injection eo22 with f1_ f2_ f3_; have f4_ := f1_.symm; have f5_ := f3_.symm; clear f1_ f2_ f3_; subst f4_; subst f5_))
    refine start_ (n := 4) (S := fun w' => w'.cell? ⟨gb108, 0, none⟩ = some (.slice Ao22 x109000_1.length co22) ∧ w'.cell? ⟨gb108, 1, none⟩ = some (.int .i64 x109001_1)) (ds := []) #[Z,Z,Z,Z] (by kernel_rfl) rfl rfl ⟨(blk_cell BK108.out 0).trans rfl, (blk_cell BK108.out 1).trans rfl⟩ (fun hHeld => ?_)
    generalize wr.drew = w21 at HO_6 HO_109000 BK108 BK109 HB hHeld ⊢
    refine pure_ (i := 0) (N := some 30) (v := ?_) (a' := ?_) #[Y,Z,Z,Z] rfl rfl (by kernel_rfl) (fun _ _ _ h => h) (Or.inl ⟨by rfl, ?_⟩) ?_ ?_
    rotate_left
    ·
     intro w'
     go_simp
     with_reducible rfl
    rotate_left
    ·
     simp only [Act.put, List.setIfInBounds_toArray, List.set_cons_zero, List.set_cons_succ, i64_w, i32_w]
     rfl
    refine pure_ (i := 2) (N := some 4) (v := ?_) (a' := ?_) #[Y,Z,Y,Z] rfl rfl (by kernel_rfl) (fun _ _ _ h => h) (Or.inl ⟨by rfl, ?_⟩) ?_ ?_
    rotate_left
    ·
     intro w'
     go_simp
     with_reducible rfl
    rotate_left
    ·
     simp only [Act.put, List.setIfInBounds_toArray, List.set_cons_zero, List.set_cons_succ, i64_w, i32_w]
     rfl
    refine take_ (i := 1) (N := some 31) (v := ?_) (a' := ?_) #[Y,Y,Y,Z] rfl rfl (by kernel_rfl) (fun _ _ _ h => h) (Or.inl ⟨by rfl, ?_⟩) hHeld ?_ ?_
    rotate_left
    ·
     rintro w' ⟨s0, s1⟩
     go_simp
     with_reducible rfl
    rotate_left
    ·
     simp only [Act.put, List.setIfInBounds_toArray, List.set_cons_zero, List.set_cons_succ, i64_w, i32_w]
     rfl
    refine one_ (i := 3) (N := none) #[Y,Y,Y,Y] rfl rfl (by kernel_rfl) (by decide) (fun K hK => ?_)
    have hs23 : w21.cell? ⟨gb109, 0, none⟩ = some (.slice none 0 0) := (blk_cell BK109.out 0).trans rfl
    have hfs23 := blk_frozen BK109.out 0
    have hns23_0 := NB108_109.out
    have hms23_0 := NB109_108.out
    have hs24 : w21.cell? ⟨gb109, 1, none⟩ = some (.int .i64 0) := (blk_cell BK109.out 1).trans rfl
    have hfs24 := blk_frozen BK109.out 1
    have hns24_0 := NB108_109.out
    have hms24_0 := NB109_108.out
    refine skip_ (w1 := ?_) (by rfl) rfl ?_ ?_
    rotate_left
    ·
     go_simp
     rfl
    refine hK.out _ _ ⟨((cell_far (p := ⟨gb109, _, none⟩) NB108_109.out _).trans (((cell_far (p := ⟨gb109, _, none⟩) NB108_109.out _).trans (hHeld.1)))), ((cell_far (p := ⟨gb109, _, none⟩) NB108_109.out _).trans (((cell_far (p := ⟨gb109, _, none⟩) NB108_109.out _).trans (hHeld.2))))⟩ (fun hHeld => ?_)
    clear hK K
    refine done_ (by kernel_rfl) ?_
    try go_wp2
    refine bodyPost_ret (results_tc rfl _ _ gb109 27 #[.slice Ao22 x109000_1.length co22, .int .i64 x109001_1] (0, 0) _ rfl (bp2_ BK109.out) Try.underlying27 rfl (by kernel_rfl)) rfl ?_
    exact ⟨_, _, eW_, by (with_reducible repeat (first | apply Kd.S_alloc | apply Kd.S_drewN | apply Kd.S_drew)); exact Kd.S_mono (s2_ (g := gb109) (Kd.S_types HO_6.out BK109.out (by decide))) (fun _ hk => hk.1), by (with_reducible repeat (first | apply Kd.V_alloc | apply Kd.V_drewN | apply Kd.V_drew)); exact Kd.V_mono (v2_ (g := gb109) (Kd.V_mono HO_109000.out (fun k_ hk => (⟨hk, hk.2.2.2⟩ : _ ∧ k_ ≠ gb109)))) (fun _ hk => ⟨hk.1.1, hk.1.2.1⟩), by repeat (first | (with_reducible first | exact HB.out | apply below_alloc | apply pw_below_drewN | apply below_drew1 | refine below_set ?_ GE108.out | refine below_set ?_ GE109.out) | exact HB.out)⟩

/-! ### chamberlainref10_Get: function 37 -/
def chamberlainref10_Get.l0 : Nat → List (S55) → Int → Int → Option (Int × Int × Int × List Int × (List (S113)) × Bool × Bool)
 | 0, _, _, _ => none
 | k + 1, x0, x1, x6 => if x6 < (x0.length : Int) then (if 0 ≤ x6 then (if ((rd_T55 x0 x6).f0) = x1 then (some ((rd_T55 x0 x6).f0, (rd_T55 x0 x6).f1, (rd_T55 x0 x6).f2, (rd_T55 x0 x6).f3, (rd_T55 x0 x6).f4, (rd_T55 x0 x6).f5, true)) else (chamberlainref10_Get.l0 k x0 x1 (wrap64 (x6 + 1)))) else (none)) else (some (0, 0, 0, ([] : List Int), ([] : List (S113)), false, false))
def chamberlainref10_Get.f (k : Nat) (l0 : List (S55)) (a1 : Int) : Option (Int × Int × Int × List Int × (List (S113)) × Bool × Bool) := chamberlainref10_Get.l0 k l0 a1 0
set_option maxHeartbeats 8000000 in
set_option maxRecDepth 100000 in
theorem chamberlainref10_Get.calls (k : Nat) (P0_ : Nat → Prop) (A0 : Option Addr) (c0 : Nat) (l0 : List (S55)) (a1 : Int) (r1 : Int) (r2 : Int) (r3 : Int) (r4 : List Int) (r5 : List (S113)) (r6 : Bool) (r7 : Bool) (w : World) (hs0 : Kd.V k55 55 w w.heap.size (fun k_ => P0_ k_) (.slice A0 l0.length c0) l0) (h : chamberlainref10_Get.f k l0 a1 = some (r1, r2, r3, r4, r5, r6, r7)) :
  Calls Try.prog 37 #[.slice A0 l0.length c0, .int .u32 a1] w fun e w' => ∃ v3_ v4_ : Value, e = .returned (.tuple #[.agg #[.int .u32 r1, .int .u32 r2, .int .u32 r3, v3_, v4_, .bool r6], .bool r7]) ∧ Kd.V (Kd.int .u32) 22 w' w.heap.size (fun k_ => (P0_ k_ ∨ w.heap.size ≤ k_)) v3_ r4 ∧ Kd.V k113 113 w' w.heap.size (fun k_ => (P0_ k_ ∨ w.heap.size ≤ k_)) v4_ r5 ∧ Below w.heap.size w w' := by
 have hu55 := Try.underlying55
 have HO0 := Aside0.mk (show Kd.V k55 55 w w.heap.size (fun k_ => (P0_ k_ ∨ w.heap.size ≤ k_)) (.slice A0 l0.length c0) l0 from Kd.V_mono hs0 (fun k_ hk => .inl hk))
 have HB := Aside0.mk (Below.refl w.heap.size w)
 have H : (chamberlainref10_Get.l0 k l0 a1 0) = some (r1, r2, r3, r4, r5, r6, r7) := h
 clear h
 have H' := Aside0.mk H
 clear H
 go_enter Try.func37, Try.ntmps37
 go_wp2_with (first | ((with_reducible refine gate_dst (N := 4) rfl ?_); refine box_event ?hg (N := 4) ?hd (cs := #[.int .u32 0, .int .u32 0, .int .u32 0, .slice none 0 0, .slice none 0 0, .bool false]) (t := 55) ?hr ?_; (case hd => rfl); (case hg => rfl); (case hr => first | (go_simp; done) | (go_simp; rfl)); intro gb122 hg w3 hbox hb; have n0_ := Aside0.mk (ve_ HO0.out gb122 hg hb); have n1_ := Aside0.mk (bs_ hb); have n2_ := Aside0.mk (hbox); have n4_ := Aside0.mk ((ge_ hg : w.heap.size ≤ gb122)); clear HO0 HB; have HO0 := n0_; have HB := n1_; have BK122 := n2_; have GE122 := n4_; clear n0_ n1_ n2_ n4_; clear hb hbox hg))
 go_loopg [6] k (fun kq v6 w' => ∃ (x6_1 : Int) (x123000_1 : Int) (x123001_1 : Int) (x123002_1 : Int) (x123005_1 : Bool), v6 = .int .i64 x6_1 ∧ Aside0 (chamberlainref10_Get.l0 kq l0 a1 x6_1 = some (r1, r2, r3, r4, r5, r6, r7)) ∧ Aside0 (kq ≤ k) ∧ Aside0 (Kd.V k55 55 w' w.heap.size (fun k_ => (P0_ k_ ∨ w.heap.size ≤ k_) ∧ k_ ≠ gb122) (.slice A0 l0.length c0) l0) ∧ Aside0 (w'.heap[gb122]? = some (.cells #[.int .u32 x123000_1, .int .u32 x123001_1, .int .u32 x123002_1, (.slice none 0 0), (.slice none 0 0), .bool x123005_1] 55 (0, 0))) ∧ Aside0 (Below w.heap.size w w'))
 case atStart => exact ⟨(0), (0), (0), (0), (false), sD_, H', ⟨Nat.le_refl _⟩, ⟨by (with_reducible repeat (first | apply Kd.V_alloc | apply Kd.V_drewN | apply Kd.V_drew)); exact HO0.out⟩, ⟨by (with_reducible repeat (first | refine blk_drewN ?_ _ | refine blk_drew ?_ | refine blk_alloc ?_ _)); exact BK122.out⟩, ⟨by repeat (first | (with_reducible first | exact HB.out | apply below_alloc | apply pw_below_drewN | apply below_drew1 | refine below_set ?_ GE122.out) | exact HB.out)⟩⟩
 case round =>
  clear H'
  try clear p2
  try clear c3
  obtain ⟨x6_1, x123000_1, x123001_1, x123002_1, x123005_1, rfl, HA, HK1, HO_0, BK122, HB⟩ := hrel
  cases gk with
  | zero => exact absurd HA.out (by simp [chamberlainref10_Get.l0])
  | succ k1 =>
   have H := HA.out
   clear HA
   simp only [chamberlainref10_Get.l0] at H
   by_cases c4 : x6_1 < (l0.length : Int)
   ·
    rw [if_pos c4] at H
    have c4b0 : decide (x6_1 < (l0.length : Int)) = true := decide_eq_true c4
    clear c4
    by_cases c5 : 0 ≤ x6_1
    ·
     rw [if_pos c5] at H
     have c5b0 : decide (0 ≤ x6_1) = true := decide_eq_true c5
     clear c5
     by_cases c6 : ((rd_T55 l0 x6_1).f0) = a1
     ·
      rw [if_pos c6] at H
      have c6b0 : (((rd_T55 l0 x6_1).f0) == a1) = true := beq_iff_eq.mpr c6
      have c6b1 : (((rd_T55 l0 x6_1).f0) != a1) = false := bne_eq_false_iff_eq.mpr c6
      clear c6
      simp only [Option.some.injEq, Prod.mk.injEq] at H
      obtain ⟨rfl, rfl, rfl, rfl, rfl, rfl, rfl⟩ := H
      have p123 : 0 ≤ (x6_1 : Int) := of_decide_eq_true aS_
      have q123 : x6_1 < (l0.length : Int) := of_decide_eq_true aS_
      obtain ⟨ad123, A123_3, c123_3, A123_4, c123_4, e123, hx123_0, hx123_1, hx123_2, hx123_3, hx123_4, hx123_5, hl123_3, hi123_3, hl123_4, hi123_4⟩ := at_T55 (Kd.V_reads' HO_0.out).2.2 x6_1 p123 q123
      cases e123
      obtain ⟨ce123, hce123, hMe123, hcc123⟩ := Kd.V_get HO_0.out z55 x6_1 p123 (by first | exact q123 | exact of_decide_eq_true aS_ | (have e_ := (Kd.V_reads' HO_0.out).1; omega))
      obtain ⟨ua123_3, uc123_3, ua123_4, uc123_4, rfl, ul123_3, ge123_3, ul123_4, ge123_4⟩ := k55_openF hMe123
      have hv123_3 := hcc123 3 _ rfl
      rw [add_field _ _ 3 (by omega)] at hv123_3
      replace hv123_3 := Option.some.inj (hv123_3.symm.trans hx123_3)
      injection hv123_3 with hva_ hvn_ hvc_
      rw [hva_] at ge123_3
      rw [hvc_] at ul123_3
      have HL123_3 := Aside0.mk (show Kd.V (Kd.int .u32) 22 _ w.heap.size _ _ ((rd_T55 l0 x6_1).f3) from Kd.V_mk ul123_3 ge123_3)
      clear hva_ hvn_ hvc_ ge123_3 ul123_3
      have hv123_4 := hcc123 4 _ rfl
      rw [add_field _ _ 4 (by omega)] at hv123_4
      replace hv123_4 := Option.some.inj (hv123_4.symm.trans hx123_4)
      injection hv123_4 with hva_ hvn_ hvc_
      rw [hva_] at ge123_4
      rw [hvc_] at ul123_4
      have HL123_4 := Aside0.mk (show Kd.V k113 113 _ w.heap.size _ _ ((rd_T55 l0 x6_1).f4) from Kd.V_mk ul123_4 ge123_4)
      clear hva_ hvn_ hvc_ ge123_4 ul123_4
      clear hcc123 hce123
      have HR123_3 := Aside0.mk hi123_3
      have HC123_3 := Aside0.mk hl123_3
      clear hi123_3 hl123_3
      have HR123_4 := Aside0.mk hi123_4
      have HC123_4 := Aside0.mk hl123_4
      clear hi123_4 hl123_4
      replace p123 := eq_true p123
      replace q123 := eq_true q123
      have p124 : 0 ≤ (x6_1 : Int) := of_decide_eq_true aS_
      have q124 : x6_1 < (l0.length : Int) := of_decide_eq_true aS_
      obtain ⟨ad124, A124_3, c124_3, A124_4, c124_4, e124, hx124_0, hx124_1, hx124_2, hx124_3, hx124_4, hx124_5, hl124_3, hi124_3, hl124_4, hi124_4⟩ := at_T55 (Kd.V_reads' HO_0.out).2.2 x6_1 p124 q124
      obtain rfl : ad123 = ad124 := (by injection e124)
      obtain ⟨ce124, hce124, hMe124, hcc124⟩ := Kd.V_get HO_0.out z55 x6_1 p124 (by first | exact q124 | exact of_decide_eq_true aS_ | (have e_ := (Kd.V_reads' HO_0.out).1; omega))
      obtain ⟨ua124_3, uc124_3, ua124_4, uc124_4, rfl, ul124_3, ge124_3, ul124_4, ge124_4⟩ := k55_openF hMe124
      have hv124_3 := hcc124 3 _ rfl
      rw [add_field _ _ 3 (by omega)] at hv124_3
      replace hv124_3 := Option.some.inj (hv124_3.symm.trans hx124_3)
      injection hv124_3 with hva_ hvn_ hvc_
      rw [hva_] at ge124_3
      rw [hvc_] at ul124_3
      have HL124_3 := Aside0.mk (show Kd.V (Kd.int .u32) 22 _ w.heap.size _ _ ((rd_T55 l0 x6_1).f3) from Kd.V_mk ul124_3 ge124_3)
      clear hva_ hvn_ hvc_ ge124_3 ul124_3
      have hv124_4 := hcc124 4 _ rfl
      rw [add_field _ _ 4 (by omega)] at hv124_4
      replace hv124_4 := Option.some.inj (hv124_4.symm.trans hx124_4)
      injection hv124_4 with hva_ hvn_ hvc_
      rw [hva_] at ge124_4
      rw [hvc_] at ul124_4
      have HL124_4 := Aside0.mk (show Kd.V k113 113 _ w.heap.size _ _ ((rd_T55 l0 x6_1).f4) from Kd.V_mk ul124_4 ge124_4)
      clear hva_ hvn_ hvc_ ge124_4 ul124_4
      clear hcc124 hce124
      have HR124_3 := Aside0.mk hi124_3
      have HC124_3 := Aside0.mk hl124_3
      clear hi124_3 hl124_3
      have HR124_4 := Aside0.mk hi124_4
      have HC124_4 := Aside0.mk hl124_4
      clear hi124_4 hl124_4
      replace p124 := eq_true p124
      replace q124 := eq_true q124
      have ea_ := Option.some.inj (hx123_3.symm.trans hx124_3)
      injection ea_ with ea_ en_ ec_
      subst ea_
      subst ec_
      clear en_
      have ea_ := Option.some.inj (hx123_4.symm.trans hx124_4)
      injection ea_ with ea_ en_ ec_
      subst ea_
      subst ec_
      clear en_
      have ⟨hcz7_0, hcz7_1, hcz7_2, hcz7_3, hcz7_4, hcz7_5⟩ := cz6_ BK122.out
      have ⟨hfz7_0, hfz7_1, hfz7_2, hfz7_3, hfz7_4, hfz7_5⟩ := fz6_ BK122.out
      go_wp2
      refine bodyPost_ret (results_ct rfl _ _ gb122 55 #[.int .u32 ((rd_T55 l0 x6_1).f0), .int .u32 ((rd_T55 l0 x6_1).f1), .int .u32 ((rd_T55 l0 x6_1).f2), .slice A123_3 ((rd_T55 l0 x6_1).f3).length c123_3, .slice A123_4 ((rd_T55 l0 x6_1).f4).length c123_4, .bool ((rd_T55 l0 x6_1).f5)] (0, 0) _ rfl (bp6_ BK122.out) Try.underlying55 rfl (by kernel_rfl)) rfl ?_
      exact ⟨_, _, eW_, by (with_reducible repeat (first | apply Kd.V_alloc | apply Kd.V_drewN | apply Kd.V_drew)); exact Kd.V_mono (v6_ (g := gb122) (Kd.V_mono HL124_3.out (fun k_ hk => (⟨hk, hk.2⟩ : _ ∧ k_ ≠ gb122)))) (fun _ hk => hk.1.1), by (with_reducible repeat (first | apply Kd.V_alloc | apply Kd.V_drewN | apply Kd.V_drew)); exact Kd.V_mono (v6_ (g := gb122) (Kd.V_mono HL124_4.out (fun k_ hk => (⟨hk, hk.2⟩ : _ ∧ k_ ≠ gb122)))) (fun _ hk => hk.1.1), by repeat (first | (with_reducible first | exact HB.out | apply below_alloc | apply pw_below_drewN | apply below_drew1 | refine below_set ?_ GE122.out) | exact HB.out)⟩
     ·
      rw [if_neg c6] at H
      have c6b0 : (((rd_T55 l0 x6_1).f0) == a1) = false := beq_eq_false_iff_ne.mpr c6
      have c6b1 : (((rd_T55 l0 x6_1).f0) != a1) = true := bne_iff_ne.mpr c6
      have H' := Aside0.mk H
      clear H
      have p123 : 0 ≤ (x6_1 : Int) := of_decide_eq_true aS_
      have q123 : x6_1 < (l0.length : Int) := of_decide_eq_true aS_
      obtain ⟨ad123, A123_3, c123_3, A123_4, c123_4, e123, hx123_0, hx123_1, hx123_2, hx123_3, hx123_4, hx123_5, hl123_3, hi123_3, hl123_4, hi123_4⟩ := at_T55 (Kd.V_reads' HO_0.out).2.2 x6_1 p123 q123
      cases e123
      obtain ⟨ce123, hce123, hMe123, hcc123⟩ := Kd.V_get HO_0.out z55 x6_1 p123 (by first | exact q123 | exact of_decide_eq_true aS_ | (have e_ := (Kd.V_reads' HO_0.out).1; omega))
      obtain ⟨ua123_3, uc123_3, ua123_4, uc123_4, rfl, ul123_3, ge123_3, ul123_4, ge123_4⟩ := k55_openF hMe123
      have hv123_3 := hcc123 3 _ rfl
      rw [add_field _ _ 3 (by omega)] at hv123_3
      replace hv123_3 := Option.some.inj (hv123_3.symm.trans hx123_3)
      injection hv123_3 with hva_ hvn_ hvc_
      rw [hva_] at ge123_3
      rw [hvc_] at ul123_3
      have HL123_3 := Aside0.mk (show Kd.V (Kd.int .u32) 22 _ w.heap.size _ _ ((rd_T55 l0 x6_1).f3) from Kd.V_mk ul123_3 ge123_3)
      clear hva_ hvn_ hvc_ ge123_3 ul123_3
      have hv123_4 := hcc123 4 _ rfl
      rw [add_field _ _ 4 (by omega)] at hv123_4
      replace hv123_4 := Option.some.inj (hv123_4.symm.trans hx123_4)
      injection hv123_4 with hva_ hvn_ hvc_
      rw [hva_] at ge123_4
      rw [hvc_] at ul123_4
      have HL123_4 := Aside0.mk (show Kd.V k113 113 _ w.heap.size _ _ ((rd_T55 l0 x6_1).f4) from Kd.V_mk ul123_4 ge123_4)
      clear hva_ hvn_ hvc_ ge123_4 ul123_4
      clear hcc123 hce123
      have HR123_3 := Aside0.mk hi123_3
      have HC123_3 := Aside0.mk hl123_3
      clear hi123_3 hl123_3
      have HR123_4 := Aside0.mk hi123_4
      have HC123_4 := Aside0.mk hl123_4
      clear hi123_4 hl123_4
      replace p123 := eq_true p123
      replace q123 := eq_true q123
      go_wp2
      go_roundg k1
      case measure => have := HK1.out; omega
      case rel => exact ⟨(wrap64 (x6_1 + 1)), (x123000_1), (x123001_1), (x123002_1), (x123005_1), sD_, H', ⟨by have := HK1.out; omega⟩, ⟨by (with_reducible repeat (first | apply Kd.V_alloc | apply Kd.V_drewN | apply Kd.V_drew)); exact HO_0.out⟩, ⟨by (with_reducible repeat (first | refine blk_drewN ?_ _ | refine blk_drew ?_ | refine blk_alloc ?_ _)); exact BK122.out⟩, ⟨by repeat (first | (with_reducible first | exact HB.out | apply below_alloc | apply pw_below_drewN | apply below_drew1 | refine below_set ?_ GE122.out) | exact HB.out)⟩⟩
    ·
     rw [if_neg c5] at H
     exact absurd H (by simp)
   ·
    rw [if_neg c4] at H
    have c4b0 : decide (x6_1 < (l0.length : Int)) = false := decide_eq_false c4
    clear c4
    simp only [Option.some.injEq, Prod.mk.injEq] at H
    obtain ⟨rfl, rfl, rfl, rfl, rfl, rfl, rfl⟩ := H
    have ⟨hcz8_0, hcz8_1, hcz8_2, hcz8_3, hcz8_4, hcz8_5⟩ := cz6_ BK122.out
    have ⟨hfz8_0, hfz8_1, hfz8_2, hfz8_3, hfz8_4, hfz8_5⟩ := fz6_ BK122.out
    go_wp2
    refine bodyPost_ret (results_ct rfl _ _ gb122 55 #[.int .u32 0, .int .u32 0, .int .u32 0, .slice none 0 0, .slice none 0 0, .bool false] (0, 0) _ rfl (bp6_ BK122.out) Try.underlying55 rfl (by kernel_rfl)) rfl ?_
    exact ⟨_, _, eW_, (Kd.V_nil _ _ _ _ _), (Kd.V_nil _ _ _ _ _), by repeat (first | (with_reducible first | exact HB.out | apply below_alloc | apply pw_below_drewN | apply below_drew1 | refine below_set ?_ GE122.out) | exact HB.out)⟩

/-! ### chamberlainref07_Few: function 38 -/
mutual
def chamberlainref07_Few.l0 : Nat → Int → Int → List (S92) → Option (Bool)
 | 0, _, _, _ => none
 | k + 1, x3, x126000, x126001 => if x3 < (x126001.length : Int) then (chamberlainref07_Few.j1 k x3 (decide (x3 < 100)) x126000 x126001) else (chamberlainref07_Few.j1 k x3 false x126000 x126001)
def chamberlainref07_Few.j1 : Nat → Int → Bool → Int → List (S92) → Option (Bool)
 | 0, _, _, _, _ => none
 | k + 1, x3, x12, x126000, x126001 => if x12 = true then (if 0 ≤ x3 then (if x3 < (x126001.length : Int) then (if (((rd_T92 x126001 x3).f3).length : Int) > 100 then (some false) else (chamberlainref07_Few.l0 k (wrap64 (x3 + 1)) x126000 x126001)) else (none)) else (none)) else (some (decide ((x126001.length : Int) ≤ 70)))
end
def chamberlainref07_Few.f (k : Nat) (a0_0 : Int) (l0_1 : List (S92)) : Option (Bool) := chamberlainref07_Few.l0 k 0 a0_0 l0_1
set_option maxHeartbeats 8000000 in
set_option maxRecDepth 100000 in
theorem chamberlainref07_Few.calls (k : Nat) (a0_0 : Int) (A0_1 : Option Addr) (c0_1 : Nat) (l0_1 : List (S92)) (r : Bool) (w : World) (hr0_1 : Kd.C k92 w A0_1 l0_1.length l0_1) (hc0_1 : l0_1.length ≤ c0_1) (h : chamberlainref07_Few.f k a0_0 l0_1 = some r) :
  Calls Try.prog 38 #[.agg #[.int .i64 a0_0, .slice A0_1 l0_1.length c0_1]] w fun e w' => e = .returned (.bool r) ∧ Below w.heap.size w w' := by
 have hu30 := Try.underlying30
 have HR0_1 := Aside0.mk hr0_1
 have HC0_1 := Aside0.mk hc0_1
 clear hr0_1 hc0_1
 have HB := Aside0.mk (Below.refl w.heap.size w)
 have H : (chamberlainref07_Few.l0 k 0 a0_0 l0_1) = some r := h
 clear h
 have H' := Aside0.mk H
 clear H
 go_enter Try.func38, Try.ntmps38
 go_wp2_with (first | ((with_reducible refine gate_dst (N := 1) rfl ?_); refine box_event ?hg (N := 1) ?hd (cs := #[.int .i64 a0_0, .slice A0_1 l0_1.length c0_1]) (t := 30) ?hr ?_; (case hd => rfl); (case hg => rfl); (case hr => first | (go_simp; done) | (go_simp; rfl)); intro gb125 hg w2 hbox hb; have n0_ := Aside0.mk (bs_ hb); have n1_ := Aside0.mk (hbox); have n3_ := Aside0.mk ((ge_ hg : w.heap.size ≤ gb125)); clear HB; have HB := n0_; have BK125 := n1_; have GE125 := n3_; clear n0_ n1_ n3_; clear hb hbox hg))
 go_loopg [3] k (fun kq v3 w' => ∃ (x3_1 : Int), v3 = .int .i64 x3_1 ∧ Aside0 (chamberlainref07_Few.l0 kq x3_1 a0_0 l0_1 = some r) ∧ Aside0 (kq ≤ k) ∧ Aside0 (w'.heap[gb125]? = some (.cells #[.int .i64 a0_0, (.slice A0_1 l0_1.length c0_1)] 30 (0, 0))) ∧ Aside0 (Below w.heap.size w w'))
 case atStart => exact ⟨(0), sD_, H', ⟨Nat.le_refl _⟩, ⟨by (with_reducible repeat (first | refine blk_drewN ?_ _ | refine blk_drew ?_ | refine blk_alloc ?_ _)); exact BK125.out⟩, ⟨by repeat (first | (with_reducible first | exact HB.out | apply below_alloc | apply pw_below_drewN | apply below_drew1 | refine below_set ?_ GE125.out) | exact HB.out)⟩⟩
 case round =>
  clear H'
  try clear p2
  obtain ⟨x3_1, rfl, HA, HK1, BK125, HB⟩ := hrel
  cases gk with
  | zero => exact absurd HA.out (by simp [chamberlainref07_Few.l0])
  | succ k1 =>
   have H := HA.out
   clear HA
   simp only [chamberlainref07_Few.l0] at H
   have HC3 := Aside0.mk H
   clear H
   go_upto_region 2 with (fail)
   go_cut [12] (fun v12 wc => ∃ (kq : Nat) (x12_2 : Bool), v12 = .bool x12_2 ∧ Aside0 (chamberlainref07_Few.j1 kq x3_1 x12_2 a0_0 l0_1 = some r) ∧ Aside0 (kq ≤ k1) ∧ Aside0 (wc.heap[gb125]? = some (.cells #[.int .i64 a0_0, (.slice A0_1 l0_1.length c0_1)] 30 (0, 0))) ∧ Aside0 (Below w.heap.size w wc))
   case first =>
    have H := HC3.out
    clear HC3
    by_cases c4 : x3_1 < (l0_1.length : Int)
    ·
     rw [if_pos c4] at H
     have c4b0 : decide (x3_1 < (l0_1.length : Int)) = true := decide_eq_true c4
     clear c4
     (first | rw [c4b0] | (simp only [i64_w, i32_w]; rw [c4b0]) | skip)
     have H' := Aside0.mk H
     clear H
     have ⟨hcz5_0, hcz5_1⟩ := cz2_ BK125.out
     have ⟨hfz5_0, hfz5_1⟩ := fz2_ BK125.out
     go_wp2
     go_meet
     case rel => exact ⟨_, (decide (x3_1 < 100)), sD_, H', ⟨by have := HK1.out; first | omega | exact Nat.le_refl _⟩, ⟨by (with_reducible repeat (first | refine blk_drewN ?_ _ | refine blk_drew ?_ | refine blk_alloc ?_ _)); exact BK125.out⟩, ⟨by repeat (first | (with_reducible first | exact HB.out | apply below_alloc | apply pw_below_drewN | apply below_drew1 | refine below_set ?_ GE125.out) | exact HB.out)⟩⟩
    ·
     rw [if_neg c4] at H
     have c4b0 : decide (x3_1 < (l0_1.length : Int)) = false := decide_eq_false c4
     clear c4
     (first | rw [c4b0] | (simp only [i64_w, i32_w]; rw [c4b0]) | skip)
     have H' := Aside0.mk H
     clear H
     have ⟨hcz6_0, hcz6_1⟩ := cz2_ BK125.out
     have ⟨hfz6_0, hfz6_1⟩ := fz2_ BK125.out
     go_wp2
     go_meet
     case rel => exact ⟨_, (false), sD_, H', ⟨by have := HK1.out; first | omega | exact Nat.le_refl _⟩, ⟨by (with_reducible repeat (first | refine blk_drewN ?_ _ | refine blk_drew ?_ | refine blk_alloc ?_ _)); exact BK125.out⟩, ⟨by repeat (first | (with_reducible first | exact HB.out | apply below_alloc | apply pw_below_drewN | apply below_drew1 | refine below_set ?_ GE125.out) | exact HB.out)⟩⟩
   case rest =>
    clear HC3
    try clear p2
    try clear c3
    try clear c4
    try clear c4b0
    try clear hcz5_0
    try clear hcz5_1
    try clear hcz6_0
    try clear hcz6_1
    try clear hfz5_0
    try clear hfz5_1
    try clear hfz6_0
    try clear hfz6_1
    try clear p2
    obtain ⟨kq, x12_2, rfl, HA, HJ2, BK125, HB⟩ := hcut
    cases kq with
    | zero => exact absurd HA.out (by simp [chamberlainref07_Few.j1])
    | succ kj2 =>
     have H := HA.out
     clear HA
     simp only [chamberlainref07_Few.j1] at H
     by_cases c7 : x12_2 = true
     ·
      subst c7
      have H1 : (if 0 ≤ x3_1 then (if x3_1 < (l0_1.length : Int) then (if (((rd_T92 l0_1 x3_1).f3).length : Int) > 100 then (some false) else (chamberlainref07_Few.l0 kj2 (wrap64 (x3_1 + 1)) a0_0 l0_1)) else (none)) else (none)) = some r := by rw [if_pos rfl] at H; exact H
      clear H
      have H := H1
      clear H1
      by_cases c8 : 0 ≤ x3_1
      ·
       rw [if_pos c8] at H
       have c8b0 : decide (0 ≤ x3_1) = true := decide_eq_true c8
       clear c8
       by_cases c9 : x3_1 < (l0_1.length : Int)
       ·
        rw [if_pos c9] at H
        have c9b0 : decide (x3_1 < (l0_1.length : Int)) = true := decide_eq_true c9
        clear c9
        by_cases c10 : (((rd_T92 l0_1 x3_1).f3).length : Int) > 100
        ·
         rw [if_pos c10] at H
         have c10b0 : decide (100 < (((rd_T92 l0_1 x3_1).f3).length : Int)) = true := decide_eq_true c10
         have c10b1 : decide (100 < ((rd_T92 l0_1 x3_1).f3).length) = true := decide_eq_true (by omega)
         clear c10
         obtain rfl := Option.some.inj H
         have ⟨hcz11_0, hcz11_1⟩ := cz2_ BK125.out
         have ⟨hfz11_0, hfz11_1⟩ := fz2_ BK125.out
         have p126 : 0 ≤ (x3_1 : Int) := of_decide_eq_true aS_
         have q126 : x3_1 < (l0_1.length : Int) := of_decide_eq_true aS_
         obtain ⟨ad126, A126_3, c126_3, e126, hx126_0, hx126_1, hx126_2, hx126_3, hl126_3, hi126_3⟩ := at_T92 HR0_1.out x3_1 p126 q126
         cases e126
         replace hx126_0 := (HB.out.cell (World.block_lt_of_cell? w _ hx126_0)).trans hx126_0
         replace hx126_1 := (HB.out.cell (World.block_lt_of_cell? w _ hx126_1)).trans hx126_1
         replace hx126_2 := (HB.out.cell (World.block_lt_of_cell? w _ hx126_2)).trans hx126_2
         replace hx126_3 := (HB.out.cell (World.block_lt_of_cell? w _ hx126_3)).trans hx126_3
         have HR126_3 := Aside0.mk hi126_3
         have HC126_3 := Aside0.mk hl126_3
         clear hi126_3 hl126_3
         replace p126 := eq_true p126
         replace q126 := eq_true q126
         go_wp2
         go_ret
         exact ⟨eW_, by repeat (first | (with_reducible first | exact HB.out | apply below_alloc | apply pw_below_drewN | apply below_drew1 | refine below_set ?_ GE125.out) | exact HB.out)⟩
        ·
         rw [if_neg c10] at H
         have c10b0 : decide (100 < (((rd_T92 l0_1 x3_1).f3).length : Int)) = false := decide_eq_false c10
         have c10b1 : decide (100 < ((rd_T92 l0_1 x3_1).f3).length) = false := decide_eq_false (by omega)
         clear c10
         have H' := Aside0.mk H
         clear H
         have ⟨hcz12_0, hcz12_1⟩ := cz2_ BK125.out
         have ⟨hfz12_0, hfz12_1⟩ := fz2_ BK125.out
         have p126 : 0 ≤ (x3_1 : Int) := of_decide_eq_true aS_
         have q126 : x3_1 < (l0_1.length : Int) := of_decide_eq_true aS_
         obtain ⟨ad126, A126_3, c126_3, e126, hx126_0, hx126_1, hx126_2, hx126_3, hl126_3, hi126_3⟩ := at_T92 HR0_1.out x3_1 p126 q126
         cases e126
         replace hx126_0 := (HB.out.cell (World.block_lt_of_cell? w _ hx126_0)).trans hx126_0
         replace hx126_1 := (HB.out.cell (World.block_lt_of_cell? w _ hx126_1)).trans hx126_1
         replace hx126_2 := (HB.out.cell (World.block_lt_of_cell? w _ hx126_2)).trans hx126_2
         replace hx126_3 := (HB.out.cell (World.block_lt_of_cell? w _ hx126_3)).trans hx126_3
         have HR126_3 := Aside0.mk hi126_3
         have HC126_3 := Aside0.mk hl126_3
         clear hi126_3 hl126_3
         replace p126 := eq_true p126
         replace q126 := eq_true q126
         go_wp2
         go_roundg kj2
         case measure => have := HK1.out; have := HJ2.out; omega
         case rel => exact ⟨(wrap64 (x3_1 + 1)), sD_, H', ⟨by have := HK1.out; have := HJ2.out; omega⟩, ⟨by (with_reducible repeat (first | refine blk_drewN ?_ _ | refine blk_drew ?_ | refine blk_alloc ?_ _)); exact BK125.out⟩, ⟨by repeat (first | (with_reducible first | exact HB.out | apply below_alloc | apply pw_below_drewN | apply below_drew1 | refine below_set ?_ GE125.out) | exact HB.out)⟩⟩
       ·
        rw [if_neg c9] at H
        exact absurd H (by simp)
      ·
       rw [if_neg c8] at H
       exact absurd H (by simp)
     ·
      replace c7 := Bool.eq_false_iff.mpr c7
      subst c7
      have H1 : (some (decide ((l0_1.length : Int) ≤ 70))) = some r := by rw [if_neg (show ¬ (false = true) by decide)] at H; exact H
      clear H
      have H := H1
      clear H1
      obtain rfl := Option.some.inj H
      have ⟨hcz13_0, hcz13_1⟩ := cz2_ BK125.out
      have ⟨hfz13_0, hfz13_1⟩ := fz2_ BK125.out
      go_wp2
      go_ret
      exact ⟨eW_, by repeat (first | (with_reducible first | exact HB.out | apply below_alloc | apply pw_below_drewN | apply below_drew1 | refine below_set ?_ GE125.out) | exact HB.out)⟩

/-! ### chamberlainref06_Few: function 39 -/
mutual
def chamberlainref06_Few.l0 : Nat → Int → Int → List (S94) → List (List Int) → Option (Bool)
 | 0, _, _, _, _ => none
 | k + 1, x3, x128000, x128001, x128002 => if x3 < (x128001.length : Int) then (chamberlainref06_Few.j1 k x3 (decide (x3 < 100)) x128000 x128001 x128002) else (chamberlainref06_Few.j1 k x3 false x128000 x128001 x128002)
def chamberlainref06_Few.j1 : Nat → Int → Bool → Int → List (S94) → List (List Int) → Option (Bool)
 | 0, _, _, _, _, _ => none
 | k + 1, x3, x13, x128000, x128001, x128002 => if x13 = true then (if 0 ≤ x3 then (if x3 < (x128001.length : Int) then (if (((rd_T94 x128001 x3).f1).length : Int) > 100 then (some false) else (chamberlainref06_Few.l0 k (wrap64 (x3 + 1)) x128000 x128001 x128002)) else (none)) else (none)) else (chamberlainref06_Few.l1 k 0 x128000 x128001 x128002)
def chamberlainref06_Few.l1 : Nat → Int → Int → List (S94) → List (List Int) → Option (Bool)
 | 0, _, _, _, _ => none
 | k + 1, x4, x128000, x128001, x128002 => if x4 < (x128002.length : Int) then (chamberlainref06_Few.j3 k x4 (decide (x4 < 400)) x128000 x128001 x128002) else (chamberlainref06_Few.j3 k x4 false x128000 x128001 x128002)
def chamberlainref06_Few.j3 : Nat → Int → Bool → Int → List (S94) → List (List Int) → Option (Bool)
 | 0, _, _, _, _, _ => none
 | k + 1, x4, x32, x128000, x128001, x128002 => if x32 = true then (if 0 ≤ x4 then (if x4 < (x128002.length : Int) then (if ((rd_L1 x128002 x4).length : Int) > 100 then (some false) else (chamberlainref06_Few.l1 k (wrap64 (x4 + 1)) x128000 x128001 x128002)) else (none)) else (none)) else (if (x128001.length : Int) ≤ 64 then (some (decide ((x128002.length : Int) ≤ 300))) else (some false))
end
def chamberlainref06_Few.f (k : Nat) (a0_0 : Int) (l0_1 : List (S94)) (l0_2 : List (List Int)) : Option (Bool) := chamberlainref06_Few.l0 k 0 a0_0 l0_1 l0_2
set_option maxHeartbeats 8000000 in
set_option maxRecDepth 100000 in
theorem chamberlainref06_Few.calls (k : Nat) (a0_0 : Int) (A0_1 : Option Addr) (c0_1 : Nat) (l0_1 : List (S94)) (A0_2 : Option Addr) (c0_2 : Nat) (l0_2 : List (List Int)) (r : Bool) (w : World) (hr0_1 : Kd.C k94 w A0_1 l0_1.length l0_1) (hc0_1 : l0_1.length ≤ c0_1) (hr0_2 : Kd.C (Kd.slice 22 (Kd.int .u32)) w A0_2 l0_2.length l0_2) (hc0_2 : l0_2.length ≤ c0_2) (h : chamberlainref06_Few.f k a0_0 l0_1 l0_2 = some r) :
  Calls Try.prog 39 #[.agg #[.int .i64 a0_0, .slice A0_1 l0_1.length c0_1, .slice A0_2 l0_2.length c0_2]] w fun e w' => e = .returned (.bool r) ∧ Below w.heap.size w w' := by
 have hu34 := Try.underlying34
 have HR0_1 := Aside0.mk hr0_1
 have HC0_1 := Aside0.mk hc0_1
 clear hr0_1 hc0_1
 have HR0_2 := Aside0.mk hr0_2
 have HC0_2 := Aside0.mk hc0_2
 clear hr0_2 hc0_2
 have HB := Aside0.mk (Below.refl w.heap.size w)
 have H : (chamberlainref06_Few.l0 k 0 a0_0 l0_1 l0_2) = some r := h
 clear h
 have H' := Aside0.mk H
 clear H
 go_enter Try.func39, Try.ntmps39
 go_wp2_with (first | ((with_reducible refine gate_dst (N := 1) rfl ?_); (try (refine gate_guard (by rfl) ?_; dsimp only)); refine box_event ?hg (N := 1) ?hd (cs := #[.int .i64 a0_0, .slice A0_1 l0_1.length c0_1, .slice A0_2 l0_2.length c0_2]) (t := 34) ?hr ?_; (case hd => rfl); (case hg => rfl); (case hr => first | (go_simp; done) | (go_simp; rfl)); intro gb127 hg w2 hbox hb; have n0_ := Aside0.mk (bs_ hb); have n1_ := Aside0.mk (hbox); have n3_ := Aside0.mk ((ge_ hg : w.heap.size ≤ gb127)); clear HB; have HB := n0_; have BK127 := n1_; have GE127 := n3_; clear n0_ n1_ n3_; clear hb hbox hg))
 go_loopg [3] k (fun kq v3 w' => ∃ (x3_1 : Int), v3 = .int .i64 x3_1 ∧ Aside0 (chamberlainref06_Few.l0 kq x3_1 a0_0 l0_1 l0_2 = some r) ∧ Aside0 (kq ≤ k) ∧ Aside0 (w'.heap[gb127]? = some (.cells #[.int .i64 a0_0, (.slice A0_1 l0_1.length c0_1), (.slice A0_2 l0_2.length c0_2)] 34 (0, 0))) ∧ Aside0 (Below w.heap.size w w'))
 case atStart => exact ⟨(0), sD_, H', ⟨Nat.le_refl _⟩, ⟨by (with_reducible repeat (first | refine blk_drewN ?_ _ | refine blk_drew ?_ | refine blk_alloc ?_ _)); exact BK127.out⟩, ⟨by repeat (first | (with_reducible first | exact HB.out | apply below_alloc | apply pw_below_drewN | apply below_drew1 | refine below_set ?_ GE127.out) | exact HB.out)⟩⟩
 case round =>
  clear H'
  try clear p2
  obtain ⟨x3_1, rfl, HA, HK1, BK127, HB⟩ := hrel
  cases gk with
  | zero => exact absurd HA.out (by simp [chamberlainref06_Few.l0])
  | succ k1 =>
   have H := HA.out
   clear HA
   simp only [chamberlainref06_Few.l0] at H
   have HC3 := Aside0.mk H
   clear H
   go_upto_region 2 with (fail)
   go_cut [13] (fun v13 wc => ∃ (kq : Nat) (x13_2 : Bool), v13 = .bool x13_2 ∧ Aside0 (chamberlainref06_Few.j1 kq x3_1 x13_2 a0_0 l0_1 l0_2 = some r) ∧ Aside0 (kq ≤ k1) ∧ Aside0 (wc.heap[gb127]? = some (.cells #[.int .i64 a0_0, (.slice A0_1 l0_1.length c0_1), (.slice A0_2 l0_2.length c0_2)] 34 (0, 0))) ∧ Aside0 (Below w.heap.size w wc))
   case first =>
    have H := HC3.out
    clear HC3
    by_cases c4 : x3_1 < (l0_1.length : Int)
    ·
     rw [if_pos c4] at H
     have c4b0 : decide (x3_1 < (l0_1.length : Int)) = true := decide_eq_true c4
     clear c4
     (first | rw [c4b0] | (simp only [i64_w, i32_w]; rw [c4b0]) | skip)
     have H' := Aside0.mk H
     clear H
     have ⟨hcz5_0, hcz5_1, hcz5_2⟩ := cz3_ BK127.out
     have ⟨hfz5_0, hfz5_1, hfz5_2⟩ := fz3_ BK127.out
     go_wp2
     go_meet
     case rel => exact ⟨_, (decide (x3_1 < 100)), sD_, H', ⟨by have := HK1.out; first | omega | exact Nat.le_refl _⟩, ⟨by (with_reducible repeat (first | refine blk_drewN ?_ _ | refine blk_drew ?_ | refine blk_alloc ?_ _)); exact BK127.out⟩, ⟨by repeat (first | (with_reducible first | exact HB.out | apply below_alloc | apply pw_below_drewN | apply below_drew1 | refine below_set ?_ GE127.out) | exact HB.out)⟩⟩
    ·
     rw [if_neg c4] at H
     have c4b0 : decide (x3_1 < (l0_1.length : Int)) = false := decide_eq_false c4
     clear c4
     (first | rw [c4b0] | (simp only [i64_w, i32_w]; rw [c4b0]) | skip)
     have H' := Aside0.mk H
     clear H
     have ⟨hcz6_0, hcz6_1, hcz6_2⟩ := cz3_ BK127.out
     have ⟨hfz6_0, hfz6_1, hfz6_2⟩ := fz3_ BK127.out
     go_wp2
     go_meet
     case rel => exact ⟨_, (false), sD_, H', ⟨by have := HK1.out; first | omega | exact Nat.le_refl _⟩, ⟨by (with_reducible repeat (first | refine blk_drewN ?_ _ | refine blk_drew ?_ | refine blk_alloc ?_ _)); exact BK127.out⟩, ⟨by repeat (first | (with_reducible first | exact HB.out | apply below_alloc | apply pw_below_drewN | apply below_drew1 | refine below_set ?_ GE127.out) | exact HB.out)⟩⟩
   case rest =>
    clear HC3
    try clear p2
    try clear c3
    try clear c4
    try clear c4b0
    try clear hcz5_0
    try clear hcz5_1
    try clear hcz5_2
    try clear hcz6_0
    try clear hcz6_1
    try clear hcz6_2
    try clear hfz5_0
    try clear hfz5_1
    try clear hfz5_2
    try clear hfz6_0
    try clear hfz6_1
    try clear hfz6_2
    try clear p2
    obtain ⟨kq, x13_2, rfl, HA, HJ2, BK127, HB⟩ := hcut
    cases kq with
    | zero => exact absurd HA.out (by simp [chamberlainref06_Few.j1])
    | succ kj2 =>
     have H := HA.out
     clear HA
     simp only [chamberlainref06_Few.j1] at H
     by_cases c7 : x13_2 = true
     ·
      subst c7
      have H1 : (if 0 ≤ x3_1 then (if x3_1 < (l0_1.length : Int) then (if (((rd_T94 l0_1 x3_1).f1).length : Int) > 100 then (some false) else (chamberlainref06_Few.l0 kj2 (wrap64 (x3_1 + 1)) a0_0 l0_1 l0_2)) else (none)) else (none)) = some r := by rw [if_pos rfl] at H; exact H
      clear H
      have H := H1
      clear H1
      by_cases c8 : 0 ≤ x3_1
      ·
       rw [if_pos c8] at H
       have c8b0 : decide (0 ≤ x3_1) = true := decide_eq_true c8
       clear c8
       by_cases c9 : x3_1 < (l0_1.length : Int)
       ·
        rw [if_pos c9] at H
        have c9b0 : decide (x3_1 < (l0_1.length : Int)) = true := decide_eq_true c9
        clear c9
        by_cases c10 : (((rd_T94 l0_1 x3_1).f1).length : Int) > 100
        ·
         rw [if_pos c10] at H
         have c10b0 : decide (100 < (((rd_T94 l0_1 x3_1).f1).length : Int)) = true := decide_eq_true c10
         have c10b1 : decide (100 < ((rd_T94 l0_1 x3_1).f1).length) = true := decide_eq_true (by omega)
         clear c10
         obtain rfl := Option.some.inj H
         have ⟨hcz11_0, hcz11_1, hcz11_2⟩ := cz3_ BK127.out
         have ⟨hfz11_0, hfz11_1, hfz11_2⟩ := fz3_ BK127.out
         have p128 : 0 ≤ (x3_1 : Int) := of_decide_eq_true aS_
         have q128 : x3_1 < (l0_1.length : Int) := of_decide_eq_true aS_
         obtain ⟨ad128, A128_1, c128_1, e128, hx128_0, hx128_1, hl128_1, hi128_1⟩ := at_T94 HR0_1.out x3_1 p128 q128
         cases e128
         replace hx128_0 := (HB.out.cell (World.block_lt_of_cell? w _ hx128_0)).trans hx128_0
         replace hx128_1 := (HB.out.cell (World.block_lt_of_cell? w _ hx128_1)).trans hx128_1
         have HR128_1 := Aside0.mk hi128_1
         have HC128_1 := Aside0.mk hl128_1
         clear hi128_1 hl128_1
         replace p128 := eq_true p128
         replace q128 := eq_true q128
         go_wp2
         go_ret
         exact ⟨eW_, by repeat (first | (with_reducible first | exact HB.out | apply below_alloc | apply pw_below_drewN | apply below_drew1 | refine below_set ?_ GE127.out) | exact HB.out)⟩
        ·
         rw [if_neg c10] at H
         have c10b0 : decide (100 < (((rd_T94 l0_1 x3_1).f1).length : Int)) = false := decide_eq_false c10
         have c10b1 : decide (100 < ((rd_T94 l0_1 x3_1).f1).length) = false := decide_eq_false (by omega)
         clear c10
         have H' := Aside0.mk H
         clear H
         have ⟨hcz12_0, hcz12_1, hcz12_2⟩ := cz3_ BK127.out
         have ⟨hfz12_0, hfz12_1, hfz12_2⟩ := fz3_ BK127.out
         have p128 : 0 ≤ (x3_1 : Int) := of_decide_eq_true aS_
         have q128 : x3_1 < (l0_1.length : Int) := of_decide_eq_true aS_
         obtain ⟨ad128, A128_1, c128_1, e128, hx128_0, hx128_1, hl128_1, hi128_1⟩ := at_T94 HR0_1.out x3_1 p128 q128
         cases e128
         replace hx128_0 := (HB.out.cell (World.block_lt_of_cell? w _ hx128_0)).trans hx128_0
         replace hx128_1 := (HB.out.cell (World.block_lt_of_cell? w _ hx128_1)).trans hx128_1
         have HR128_1 := Aside0.mk hi128_1
         have HC128_1 := Aside0.mk hl128_1
         clear hi128_1 hl128_1
         replace p128 := eq_true p128
         replace q128 := eq_true q128
         go_wp2
         go_roundg kj2
         case measure => have := HK1.out; have := HJ2.out; omega
         case rel => exact ⟨(wrap64 (x3_1 + 1)), sD_, H', ⟨by have := HK1.out; have := HJ2.out; omega⟩, ⟨by (with_reducible repeat (first | refine blk_drewN ?_ _ | refine blk_drew ?_ | refine blk_alloc ?_ _)); exact BK127.out⟩, ⟨by repeat (first | (with_reducible first | exact HB.out | apply below_alloc | apply pw_below_drewN | apply below_drew1 | refine below_set ?_ GE127.out) | exact HB.out)⟩⟩
       ·
        rw [if_neg c9] at H
        exact absurd H (by simp)
      ·
       rw [if_neg c8] at H
       exact absurd H (by simp)
     ·
      replace c7 := Bool.eq_false_iff.mpr c7
      subst c7
      have H1 : (chamberlainref06_Few.l1 kj2 0 a0_0 l0_1 l0_2) = some r := by rw [if_neg (show ¬ (false = true) by decide)] at H; exact H
      clear H
      have H := H1
      clear H1
      have H' := Aside0.mk H
      clear H
      go_wp2
      go_loopg [4] kj2 (fun kq v4 w' => ∃ (x4_3 : Int), v4 = .int .i64 x4_3 ∧ Aside0 (chamberlainref06_Few.l1 kq x4_3 a0_0 l0_1 l0_2 = some r) ∧ Aside0 (kq ≤ kj2) ∧ Aside0 (w'.heap[gb127]? = some (.cells #[.int .i64 a0_0, (.slice A0_1 l0_1.length c0_1), (.slice A0_2 l0_2.length c0_2)] 34 (0, 0))) ∧ Aside0 (Below w.heap.size w w'))
      case atStart => exact ⟨(0), sD_, H', ⟨Nat.le_refl _⟩, ⟨by (with_reducible repeat (first | refine blk_drewN ?_ _ | refine blk_drew ?_ | refine blk_alloc ?_ _)); exact BK127.out⟩, ⟨by repeat (first | (with_reducible first | exact HB.out | apply below_alloc | apply pw_below_drewN | apply below_drew1 | refine below_set ?_ GE127.out) | exact HB.out)⟩⟩
      case round =>
       clear H'
       try clear c1
       try clear p1
       try clear q1
       try clear hx1
       try clear p2
       try clear c3
       try clear c4
       try clear c4b0
       try clear p6
       try clear c7
       try clear c8
       try clear c8b0
       try clear c9
       try clear c9b0
       try clear c10
       try clear c10b0
       try clear c10b1
       try clear c12
       try clear p12
       try clear q12
       try clear hx12
       try clear hcz11_0
       try clear hcz11_1
       try clear hcz11_2
       try clear hcz12_0
       try clear hcz12_1
       try clear hcz12_2
       try clear hcz5_0
       try clear hcz5_1
       try clear hcz5_2
       try clear hcz6_0
       try clear hcz6_1
       try clear hcz6_2
       try clear hfz11_0
       try clear hfz11_1
       try clear hfz11_2
       try clear hfz12_0
       try clear hfz12_1
       try clear hfz12_2
       try clear hfz5_0
       try clear hfz5_1
       try clear hfz5_2
       try clear hfz6_0
       try clear hfz6_1
       try clear hfz6_2
       try clear hx128_0
       try clear hx128_1
       try clear p128
       try clear p2
       try clear q128
       obtain ⟨x4_3, rfl, HA, HK3, BK127, HB⟩ := hrel
       cases gk with
       | zero => exact absurd HA.out (by simp [chamberlainref06_Few.l1])
       | succ k3 =>
        have H := HA.out
        clear HA
        simp only [chamberlainref06_Few.l1] at H
        have HC13 := Aside0.mk H
        clear H
        go_upto_region 7 with (fail)
        go_cut [32] (fun v32 wc => ∃ (kq : Nat) (x32_12 : Bool), v32 = .bool x32_12 ∧ Aside0 (chamberlainref06_Few.j3 kq x4_3 x32_12 a0_0 l0_1 l0_2 = some r) ∧ Aside0 (kq ≤ k3) ∧ Aside0 (wc.heap[gb127]? = some (.cells #[.int .i64 a0_0, (.slice A0_1 l0_1.length c0_1), (.slice A0_2 l0_2.length c0_2)] 34 (0, 0))) ∧ Aside0 (Below w.heap.size w wc))
        case first =>
         have H := HC13.out
         clear HC13
         by_cases c14 : x4_3 < (l0_2.length : Int)
         ·
          rw [if_pos c14] at H
          have c14b0 : decide (x4_3 < (l0_2.length : Int)) = true := decide_eq_true c14
          clear c14
          (first | rw [c14b0] | (simp only [i64_w, i32_w]; rw [c14b0]) | skip)
          have H' := Aside0.mk H
          clear H
          have ⟨hcz15_0, hcz15_1, hcz15_2⟩ := cz3_ BK127.out
          have ⟨hfz15_0, hfz15_1, hfz15_2⟩ := fz3_ BK127.out
          go_wp2
          go_meet
          case rel => exact ⟨_, (decide (x4_3 < 400)), sD_, H', ⟨by have := HK1.out; have := HJ2.out; have := HK3.out; first | omega | exact Nat.le_refl _⟩, ⟨by (with_reducible repeat (first | refine blk_drewN ?_ _ | refine blk_drew ?_ | refine blk_alloc ?_ _)); exact BK127.out⟩, ⟨by repeat (first | (with_reducible first | exact HB.out | apply below_alloc | apply pw_below_drewN | apply below_drew1 | refine below_set ?_ GE127.out) | exact HB.out)⟩⟩
         ·
          rw [if_neg c14] at H
          have c14b0 : decide (x4_3 < (l0_2.length : Int)) = false := decide_eq_false c14
          clear c14
          (first | rw [c14b0] | (simp only [i64_w, i32_w]; rw [c14b0]) | skip)
          have H' := Aside0.mk H
          clear H
          have ⟨hcz16_0, hcz16_1, hcz16_2⟩ := cz3_ BK127.out
          have ⟨hfz16_0, hfz16_1, hfz16_2⟩ := fz3_ BK127.out
          go_wp2
          go_meet
          case rel => exact ⟨_, (false), sD_, H', ⟨by have := HK1.out; have := HJ2.out; have := HK3.out; first | omega | exact Nat.le_refl _⟩, ⟨by (with_reducible repeat (first | refine blk_drewN ?_ _ | refine blk_drew ?_ | refine blk_alloc ?_ _)); exact BK127.out⟩, ⟨by repeat (first | (with_reducible first | exact HB.out | apply below_alloc | apply pw_below_drewN | apply below_drew1 | refine below_set ?_ GE127.out) | exact HB.out)⟩⟩
        case rest =>
         clear HC13
         try clear c1
         try clear p1
         try clear q1
         try clear hx1
         try clear p2
         try clear c3
         try clear c4
         try clear c4b0
         try clear p6
         try clear c7
         try clear c8
         try clear c8b0
         try clear c9
         try clear c9b0
         try clear c10
         try clear c10b0
         try clear c10b1
         try clear c12
         try clear p12
         try clear q12
         try clear hx12
         try clear c14
         try clear c14b0
         try clear hcz11_0
         try clear hcz11_1
         try clear hcz11_2
         try clear hcz12_0
         try clear hcz12_1
         try clear hcz12_2
         try clear hcz15_0
         try clear hcz15_1
         try clear hcz15_2
         try clear hcz16_0
         try clear hcz16_1
         try clear hcz16_2
         try clear hcz5_0
         try clear hcz5_1
         try clear hcz5_2
         try clear hcz6_0
         try clear hcz6_1
         try clear hcz6_2
         try clear hfz11_0
         try clear hfz11_1
         try clear hfz11_2
         try clear hfz12_0
         try clear hfz12_1
         try clear hfz12_2
         try clear hfz15_0
         try clear hfz15_1
         try clear hfz15_2
         try clear hfz16_0
         try clear hfz16_1
         try clear hfz16_2
         try clear hfz5_0
         try clear hfz5_1
         try clear hfz5_2
         try clear hfz6_0
         try clear hfz6_1
         try clear hfz6_2
         try clear hx128_0
         try clear hx128_1
         try clear p1
         try clear p12
         try clear p128
         try clear p2
         try clear p6
         try clear q1
         try clear q12
         try clear q128
         obtain ⟨kq, x32_12, rfl, HA, HJ12, BK127, HB⟩ := hcut
         cases kq with
         | zero => exact absurd HA.out (by simp [chamberlainref06_Few.j3])
         | succ kj12 =>
          have H := HA.out
          clear HA
          simp only [chamberlainref06_Few.j3] at H
          by_cases c17 : x32_12 = true
          ·
           subst c17
           have H1 : (if 0 ≤ x4_3 then (if x4_3 < (l0_2.length : Int) then (if ((rd_L1 l0_2 x4_3).length : Int) > 100 then (some false) else (chamberlainref06_Few.l1 kj12 (wrap64 (x4_3 + 1)) a0_0 l0_1 l0_2)) else (none)) else (none)) = some r := by rw [if_pos rfl] at H; exact H
           clear H
           have H := H1
           clear H1
           by_cases c18 : 0 ≤ x4_3
           ·
            rw [if_pos c18] at H
            have c18b0 : decide (0 ≤ x4_3) = true := decide_eq_true c18
            clear c18
            by_cases c19 : x4_3 < (l0_2.length : Int)
            ·
             rw [if_pos c19] at H
             have c19b0 : decide (x4_3 < (l0_2.length : Int)) = true := decide_eq_true c19
             clear c19
             by_cases c20 : ((rd_L1 l0_2 x4_3).length : Int) > 100
             ·
              rw [if_pos c20] at H
              have c20b0 : decide (100 < ((rd_L1 l0_2 x4_3).length : Int)) = true := decide_eq_true c20
              have c20b1 : decide (100 < (rd_L1 l0_2 x4_3).length) = true := decide_eq_true (by omega)
              clear c20
              obtain rfl := Option.some.inj H
              have ⟨hcz21_0, hcz21_1, hcz21_2⟩ := cz3_ BK127.out
              have ⟨hfz21_0, hfz21_1, hfz21_2⟩ := fz3_ BK127.out
              have p129 : 0 ≤ (x4_3 : Int) := of_decide_eq_true aS_
              have q129 : x4_3 < (l0_2.length : Int) := of_decide_eq_true aS_
              obtain ⟨ad129, A129_0, c129_0, e129, hx129_0, hl129_0, hi129_0⟩ := at_L1 HR0_2.out x4_3 p129 q129
              cases e129
              replace hx129_0 := (HB.out.cell (World.block_lt_of_cell? w _ hx129_0)).trans hx129_0
              have HR129_0 := Aside0.mk hi129_0
              have HC129_0 := Aside0.mk hl129_0
              clear hi129_0 hl129_0
              replace p129 := eq_true p129
              replace q129 := eq_true q129
              go_wp2
              go_ret
              exact ⟨eW_, by repeat (first | (with_reducible first | exact HB.out | apply below_alloc | apply pw_below_drewN | apply below_drew1 | refine below_set ?_ GE127.out) | exact HB.out)⟩
             ·
              rw [if_neg c20] at H
              have c20b0 : decide (100 < ((rd_L1 l0_2 x4_3).length : Int)) = false := decide_eq_false c20
              have c20b1 : decide (100 < (rd_L1 l0_2 x4_3).length) = false := decide_eq_false (by omega)
              clear c20
              have H' := Aside0.mk H
              clear H
              have ⟨hcz22_0, hcz22_1, hcz22_2⟩ := cz3_ BK127.out
              have ⟨hfz22_0, hfz22_1, hfz22_2⟩ := fz3_ BK127.out
              have p129 : 0 ≤ (x4_3 : Int) := of_decide_eq_true aS_
              have q129 : x4_3 < (l0_2.length : Int) := of_decide_eq_true aS_
              obtain ⟨ad129, A129_0, c129_0, e129, hx129_0, hl129_0, hi129_0⟩ := at_L1 HR0_2.out x4_3 p129 q129
              cases e129
              replace hx129_0 := (HB.out.cell (World.block_lt_of_cell? w _ hx129_0)).trans hx129_0
              have HR129_0 := Aside0.mk hi129_0
              have HC129_0 := Aside0.mk hl129_0
              clear hi129_0 hl129_0
              replace p129 := eq_true p129
              replace q129 := eq_true q129
              go_wp2
              go_roundg kj12
              case measure => have := HK1.out; have := HJ2.out; have := HK3.out; have := HJ12.out; omega
              case rel => exact ⟨(wrap64 (x4_3 + 1)), sD_, H', ⟨by have := HK1.out; have := HJ2.out; have := HK3.out; have := HJ12.out; omega⟩, ⟨by (with_reducible repeat (first | refine blk_drewN ?_ _ | refine blk_drew ?_ | refine blk_alloc ?_ _)); exact BK127.out⟩, ⟨by repeat (first | (with_reducible first | exact HB.out | apply below_alloc | apply pw_below_drewN | apply below_drew1 | refine below_set ?_ GE127.out) | exact HB.out)⟩⟩
            ·
             rw [if_neg c19] at H
             exact absurd H (by simp)
           ·
            rw [if_neg c18] at H
            exact absurd H (by simp)
          ·
           replace c17 := Bool.eq_false_iff.mpr c17
           subst c17
           have H1 : (if (l0_1.length : Int) ≤ 64 then (some (decide ((l0_2.length : Int) ≤ 300))) else (some false)) = some r := by rw [if_neg (show ¬ (false = true) by decide)] at H; exact H
           clear H
           have H := H1
           clear H1
           by_cases c23 : (l0_1.length : Int) ≤ 64
           ·
            rw [if_pos c23] at H
            have c23b0 : decide ((l0_1.length : Int) ≤ 64) = true := decide_eq_true c23
            have c23b1 : decide (l0_1.length ≤ 64) = true := decide_eq_true (by omega)
            clear c23
            obtain rfl := Option.some.inj H
            have ⟨hcz24_0, hcz24_1, hcz24_2⟩ := cz3_ BK127.out
            have ⟨hfz24_0, hfz24_1, hfz24_2⟩ := fz3_ BK127.out
            go_wp2
            go_ret
            exact ⟨eW_, by repeat (first | (with_reducible first | exact HB.out | apply below_alloc | apply pw_below_drewN | apply below_drew1 | refine below_set ?_ GE127.out) | exact HB.out)⟩
           ·
            rw [if_neg c23] at H
            have c23b0 : decide ((l0_1.length : Int) ≤ 64) = false := decide_eq_false c23
            have c23b1 : decide (l0_1.length ≤ 64) = false := decide_eq_false (by omega)
            clear c23
            obtain rfl := Option.some.inj H
            have ⟨hcz25_0, hcz25_1, hcz25_2⟩ := cz3_ BK127.out
            have ⟨hfz25_0, hfz25_1, hfz25_2⟩ := fz3_ BK127.out
            go_wp2
            go_ret
            exact ⟨eW_, by repeat (first | (with_reducible first | exact HB.out | apply below_alloc | apply pw_below_drewN | apply below_drew1 | refine below_set ?_ GE127.out) | exact HB.out)⟩

/-! ### chamberlainref10_Few: function 40 -/
mutual
def chamberlainref10_Few.l0 : Nat → List (S55) → Int → Option (Bool)
 | 0, _, _ => none
 | k + 1, x0, x3 => if x3 < (x0.length : Int) then (chamberlainref10_Few.j1 k x0 x3 (decide (x3 < 20))) else (chamberlainref10_Few.j1 k x0 x3 false)
def chamberlainref10_Few.j1 : Nat → List (S55) → Int → Bool → Option (Bool)
 | 0, _, _, _ => none
 | k + 1, x0, x3, x11 => if x11 = true then (if 0 ≤ x3 then (if x3 < (x0.length : Int) then (if (((rd_T55 x0 x3).f3).length : Int) > 100 then (some false) else (if (((rd_T55 x0 x3).f4).length : Int) > 100 then (some false) else (chamberlainref10_Few.l0 k x0 (wrap64 (x3 + 1))))) else (none)) else (none)) else (some (decide ((x0.length : Int) ≤ 10)))
end
def chamberlainref10_Few.f (k : Nat) (l0 : List (S55)) : Option (Bool) := chamberlainref10_Few.l0 k l0 0
set_option maxHeartbeats 8000000 in
set_option maxRecDepth 100000 in
theorem chamberlainref10_Few.calls (k : Nat) (A0 : Option Addr) (c0 : Nat) (l0 : List (S55)) (r : Bool) (w : World) (hr0 : Kd.C k55 w A0 l0.length l0) (hc0 : l0.length ≤ c0) (h : chamberlainref10_Few.f k l0 = some r) :
  Calls Try.prog 40 #[.slice A0 l0.length c0] w fun e w' => e = .returned (.bool r) ∧ Drawn0 w w' := by
 have HR0 := Aside0.mk hr0
 have HC0 := Aside0.mk hc0
 clear hr0 hc0
 have H : (chamberlainref10_Few.l0 k l0 0) = some r := h
 clear h
 have H' := Aside0.mk H
 clear H
 go_enter Try.func40, Try.ntmps40
 go_wp2
 go_loopg [3] k (fun kq v3 w' => ∃ (x3_1 : Int), v3 = .int .i64 x3_1 ∧ Aside0 (chamberlainref10_Few.l0 kq l0 x3_1 = some r) ∧ Aside0 (kq ≤ k) ∧ Drawn0 w w')
 case atStart => exact ⟨(0), sD_, H', ⟨Nat.le_refl _⟩, dR_⟩
 case round =>
  clear H'
  obtain ⟨x3_1, rfl, HA, HK1, ⟨m1, rfl⟩⟩ := hrel
  cases gk with
  | zero => exact absurd HA.out (by simp [chamberlainref10_Few.l0])
  | succ k1 =>
   have H := HA.out
   clear HA
   simp only [chamberlainref10_Few.l0] at H
   have HC2 := Aside0.mk H
   clear H
   go_upto_region 2 with (fail)
   go_cut [11] (fun v11 wc => ∃ (kq : Nat) (x11_1 : Bool), v11 = .bool x11_1 ∧ Aside0 (chamberlainref10_Few.j1 kq l0 x3_1 x11_1 = some r) ∧ Aside0 (kq ≤ k1) ∧ Drawn0 w wc)
   case first =>
    have H := HC2.out
    clear HC2
    by_cases c3 : x3_1 < (l0.length : Int)
    ·
     rw [if_pos c3] at H
     have c3b0 : decide (x3_1 < (l0.length : Int)) = true := decide_eq_true c3
     clear c3
     (first | rw [c3b0] | (simp only [i64_w, i32_w]; rw [c3b0]) | skip)
     have H' := Aside0.mk H
     clear H
     go_wp2
     go_meet
     case rel => exact ⟨_, (decide (x3_1 < 20)), sD_, H', ⟨by have := HK1.out; first | omega | exact Nat.le_refl _⟩, dR_⟩
    ·
     rw [if_neg c3] at H
     have c3b0 : decide (x3_1 < (l0.length : Int)) = false := decide_eq_false c3
     clear c3
     (first | rw [c3b0] | (simp only [i64_w, i32_w]; rw [c3b0]) | skip)
     have H' := Aside0.mk H
     clear H
     go_wp2
     go_meet
     case rel => exact ⟨_, (false), sD_, H', ⟨by have := HK1.out; first | omega | exact Nat.le_refl _⟩, dR_⟩
   case rest =>
    clear HC2
    try clear p2
    try clear c3
    try clear c3b0
    obtain ⟨kq, x11_1, rfl, HA, HJ1, ⟨mc1, rfl⟩⟩ := hcut
    cases kq with
    | zero => exact absurd HA.out (by simp [chamberlainref10_Few.j1])
    | succ kj1 =>
     have H := HA.out
     clear HA
     simp only [chamberlainref10_Few.j1] at H
     by_cases c4 : x11_1 = true
     ·
      subst c4
      have H1 : (if 0 ≤ x3_1 then (if x3_1 < (l0.length : Int) then (if (((rd_T55 l0 x3_1).f3).length : Int) > 100 then (some false) else (if (((rd_T55 l0 x3_1).f4).length : Int) > 100 then (some false) else (chamberlainref10_Few.l0 kj1 l0 (wrap64 (x3_1 + 1))))) else (none)) else (none)) = some r := by rw [if_pos rfl] at H; exact H
      clear H
      have H := H1
      clear H1
      by_cases c5 : 0 ≤ x3_1
      ·
       rw [if_pos c5] at H
       have c5b0 : decide (0 ≤ x3_1) = true := decide_eq_true c5
       clear c5
       by_cases c6 : x3_1 < (l0.length : Int)
       ·
        rw [if_pos c6] at H
        have c6b0 : decide (x3_1 < (l0.length : Int)) = true := decide_eq_true c6
        clear c6
        by_cases c7 : (((rd_T55 l0 x3_1).f3).length : Int) > 100
        ·
         rw [if_pos c7] at H
         have c7b0 : decide (100 < (((rd_T55 l0 x3_1).f3).length : Int)) = true := decide_eq_true c7
         have c7b1 : decide (100 < ((rd_T55 l0 x3_1).f3).length) = true := decide_eq_true (by omega)
         clear c7
         obtain rfl := Option.some.inj H
         have p130 : 0 ≤ (x3_1 : Int) := of_decide_eq_true aS_
         have q130 : x3_1 < (l0.length : Int) := of_decide_eq_true aS_
         obtain ⟨ad130, A130_3, c130_3, A130_4, c130_4, e130, hx130_0, hx130_1, hx130_2, hx130_3, hx130_4, hx130_5, hl130_3, hi130_3, hl130_4, hi130_4⟩ := at_T55 HR0.out x3_1 p130 q130
         cases e130
         have HR130_3 := Aside0.mk hi130_3
         have HC130_3 := Aside0.mk hl130_3
         clear hi130_3 hl130_3
         have HR130_4 := Aside0.mk hi130_4
         have HC130_4 := Aside0.mk hl130_4
         clear hi130_4 hl130_4
         replace p130 := eq_true p130
         replace q130 := eq_true q130
         go_wp2
         go_ret
         exact ⟨sD_, dR_⟩
        ·
         rw [if_neg c7] at H
         have c7b0 : decide (100 < (((rd_T55 l0 x3_1).f3).length : Int)) = false := decide_eq_false c7
         have c7b1 : decide (100 < ((rd_T55 l0 x3_1).f3).length) = false := decide_eq_false (by omega)
         clear c7
         by_cases c8 : (((rd_T55 l0 x3_1).f4).length : Int) > 100
         ·
          rw [if_pos c8] at H
          have c8b0 : decide (100 < (((rd_T55 l0 x3_1).f4).length : Int)) = true := decide_eq_true c8
          have c8b1 : decide (100 < ((rd_T55 l0 x3_1).f4).length) = true := decide_eq_true (by omega)
          clear c8
          obtain rfl := Option.some.inj H
          have p130 : 0 ≤ (x3_1 : Int) := of_decide_eq_true aS_
          have q130 : x3_1 < (l0.length : Int) := of_decide_eq_true aS_
          obtain ⟨ad130, A130_3, c130_3, A130_4, c130_4, e130, hx130_0, hx130_1, hx130_2, hx130_3, hx130_4, hx130_5, hl130_3, hi130_3, hl130_4, hi130_4⟩ := at_T55 HR0.out x3_1 p130 q130
          cases e130
          have HR130_3 := Aside0.mk hi130_3
          have HC130_3 := Aside0.mk hl130_3
          clear hi130_3 hl130_3
          have HR130_4 := Aside0.mk hi130_4
          have HC130_4 := Aside0.mk hl130_4
          clear hi130_4 hl130_4
          replace p130 := eq_true p130
          replace q130 := eq_true q130
          have p131 : 0 ≤ (x3_1 : Int) := of_decide_eq_true aS_
          have q131 : x3_1 < (l0.length : Int) := of_decide_eq_true aS_
          obtain ⟨ad131, A131_3, c131_3, A131_4, c131_4, e131, hx131_0, hx131_1, hx131_2, hx131_3, hx131_4, hx131_5, hl131_3, hi131_3, hl131_4, hi131_4⟩ := at_T55 HR0.out x3_1 p131 q131
          obtain rfl : ad130 = ad131 := (by injection e131)
          have HR131_3 := Aside0.mk hi131_3
          have HC131_3 := Aside0.mk hl131_3
          clear hi131_3 hl131_3
          have HR131_4 := Aside0.mk hi131_4
          have HC131_4 := Aside0.mk hl131_4
          clear hi131_4 hl131_4
          replace p131 := eq_true p131
          replace q131 := eq_true q131
          have ea_ := Option.some.inj (hx130_3.symm.trans hx131_3)
          injection ea_ with ea_ en_ ec_
          subst ea_
          subst ec_
          clear en_
          have ea_ := Option.some.inj (hx130_4.symm.trans hx131_4)
          injection ea_ with ea_ en_ ec_
          subst ea_
          subst ec_
          clear en_
          go_wp2
          go_ret
          exact ⟨sD_, dR_⟩
         ·
          rw [if_neg c8] at H
          have c8b0 : decide (100 < (((rd_T55 l0 x3_1).f4).length : Int)) = false := decide_eq_false c8
          have c8b1 : decide (100 < ((rd_T55 l0 x3_1).f4).length) = false := decide_eq_false (by omega)
          clear c8
          have H' := Aside0.mk H
          clear H
          have p130 : 0 ≤ (x3_1 : Int) := of_decide_eq_true aS_
          have q130 : x3_1 < (l0.length : Int) := of_decide_eq_true aS_
          obtain ⟨ad130, A130_3, c130_3, A130_4, c130_4, e130, hx130_0, hx130_1, hx130_2, hx130_3, hx130_4, hx130_5, hl130_3, hi130_3, hl130_4, hi130_4⟩ := at_T55 HR0.out x3_1 p130 q130
          cases e130
          have HR130_3 := Aside0.mk hi130_3
          have HC130_3 := Aside0.mk hl130_3
          clear hi130_3 hl130_3
          have HR130_4 := Aside0.mk hi130_4
          have HC130_4 := Aside0.mk hl130_4
          clear hi130_4 hl130_4
          replace p130 := eq_true p130
          replace q130 := eq_true q130
          have p131 : 0 ≤ (x3_1 : Int) := of_decide_eq_true aS_
          have q131 : x3_1 < (l0.length : Int) := of_decide_eq_true aS_
          obtain ⟨ad131, A131_3, c131_3, A131_4, c131_4, e131, hx131_0, hx131_1, hx131_2, hx131_3, hx131_4, hx131_5, hl131_3, hi131_3, hl131_4, hi131_4⟩ := at_T55 HR0.out x3_1 p131 q131
          obtain rfl : ad130 = ad131 := (by injection e131)
          have HR131_3 := Aside0.mk hi131_3
          have HC131_3 := Aside0.mk hl131_3
          clear hi131_3 hl131_3
          have HR131_4 := Aside0.mk hi131_4
          have HC131_4 := Aside0.mk hl131_4
          clear hi131_4 hl131_4
          replace p131 := eq_true p131
          replace q131 := eq_true q131
          have ea_ := Option.some.inj (hx130_3.symm.trans hx131_3)
          injection ea_ with ea_ en_ ec_
          subst ea_
          subst ec_
          clear en_
          have ea_ := Option.some.inj (hx130_4.symm.trans hx131_4)
          injection ea_ with ea_ en_ ec_
          subst ea_
          subst ec_
          clear en_
          go_wp2
          go_roundg kj1
          case measure => have := HK1.out; have := HJ1.out; omega
          case rel => exact ⟨(wrap64 (x3_1 + 1)), sD_, H', ⟨by have := HK1.out; have := HJ1.out; omega⟩, dR_⟩
       ·
        rw [if_neg c6] at H
        exact absurd H (by simp)
      ·
       rw [if_neg c5] at H
       exact absurd H (by simp)
     ·
      replace c4 := Bool.eq_false_iff.mpr c4
      subst c4
      have H1 : (some (decide ((l0.length : Int) ≤ 10))) = some r := by rw [if_neg (show ¬ (false = true) by decide)] at H; exact H
      clear H
      have H := H1
      clear H1
      obtain rfl := Option.some.inj H
      go_wp2
      go_ret
      exact ⟨sD_, dR_⟩

/-! ### chamberlainref12_room: function 59 -/
def chamberlainref12_room.f (a0 : Int) : Option (Bool) := if a0 ≥ 0 then (some (decide (a0 ≤ 64))) else (some false)
set_option maxHeartbeats 8000000 in
set_option maxRecDepth 100000 in
theorem chamberlainref12_room.calls (a0 : Int) (r : Bool) (w : World) (h : chamberlainref12_room.f a0 = some r) :
  Calls Try.prog 59 #[.int .i64 a0] w fun e w' => e = .returned (.bool r) ∧ Drawn0 w w' := by
 have H : (if a0 ≥ 0 then (some (decide (a0 ≤ 64))) else (some false)) = some r := h
 clear h
 by_cases c2 : a0 ≥ 0
 ·
  rw [if_pos c2] at H
  have c2b0 : decide (0 ≤ a0) = true := decide_eq_true c2
  clear c2
  obtain rfl := Option.some.inj H
  go_enter Try.func59, Try.ntmps59
  go_wp2
  go_ret
  exact ⟨sD_, dR_⟩
 ·
  rw [if_neg c2] at H
  have c2b0 : decide (0 ≤ a0) = false := decide_eq_false c2
  clear c2
  obtain rfl := Option.some.inj H
  go_enter Try.func59, Try.ntmps59
  go_wp2
  go_ret
  exact ⟨sD_, dR_⟩

end Go.Proofs.Ythlcpbendleihaa.PAdvAlone
