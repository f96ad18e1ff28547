/- Whatever the adversary does to a world that has its form, nobody else's clock, key, runs or used words change, for every world and operation; no condition. The law's contract, over its arguments. -/
import Derived.Test.YthlcpbendleihaaDAdvAlone
namespace Go.Proofs.Ythlcpbendleihaa.PAdvAlone
open Go Go.RowKit Go.Proofs.YthlcpbendleihaaW.PrintWords Go.Proofs.YthlcpbendleihaaW.PrintLast Go.Proofs.YthlcpbendleihaaW.PrintMore Go.Proofs.Ythlcpbendleihaa.Pure
set_option linter.unusedVariables false
/-! ### law_AdvAlone: function 4 -/
def law_AdvAlone.f (a0_0 : Int) (a0_1 : Int) (a0_2 : Int) (a0_3 : Int) (a0_4 : Int) (a0_5 : Int) (a0_6 : Int) (l0_7 : List Int) (a0_8 : Int) (a0_9 : Int) (l0_10 : List S92) (a0_11 : Int) (l0_12 : List S94) (l0_13 : List (List Int)) (l0_14 : List S55) (l0_15 : List S83) (l0_16 : List (List Int)) (l0_17 : List S85) (a1_0 : Int) (a1_1 : Int) (a1_2 : Int) (a1_3 : Int) (a1_4 : Int) (l1_5 : List Int) : Option Bool := if (l0_7.all (fun q => decide (0 ≤ q ∧ q < 4294967296)) && l0_15.all (fun e => decide (0 ≤ e.f4 ∧ e.f4 < 4294967296))) = true then some true else none
set_option maxRecDepth 100000 in
theorem law_AdvAlone.calls (a0_0 : Int) (a0_1 : Int) (a0_2 : Int) (a0_3 : Int) (a0_4 : Int) (a0_5 : Int) (a0_6 : Int) (A0_7 : Option Addr) (c0_7 : Nat) (l0_7 : List Int) (a0_8 : Int) (a0_9 : Int) (A0_10 : Option Addr) (c0_10 : Nat) (l0_10 : List S92) (a0_11 : Int) (A0_12 : Option Addr) (c0_12 : Nat) (l0_12 : List S94) (A0_13 : Option Addr) (c0_13 : Nat) (l0_13 : List (List Int)) (A0_14 : Option Addr) (c0_14 : Nat) (l0_14 : List S55) (A0_15 : Option Addr) (c0_15 : Nat) (l0_15 : List S83) (A0_16 : Option Addr) (c0_16 : Nat) (l0_16 : List (List Int)) (A0_17 : Option Addr) (c0_17 : Nat) (l0_17 : List S85) (a1_0 : Int) (a1_1 : Int) (a1_2 : Int) (a1_3 : Int) (a1_4 : Int) (A1_5 : Option Addr) (c1_5 : Nat) (l1_5 : List Int) (r : Bool) (w : World) (hr0_7 : Kd.C (Kd.int .u32) w A0_7 l0_7.length l0_7) (hc0_7 : l0_7.length ≤ c0_7) (hr0_10 : Kd.C k92 w A0_10 l0_10.length l0_10) (hc0_10 : l0_10.length ≤ c0_10) (hr0_12 : Kd.C k94 w A0_12 l0_12.length l0_12) (hc0_12 : l0_12.length ≤ c0_12) (hr0_13 : Kd.C (Kd.slice 22 (Kd.int .u32)) w A0_13 l0_13.length l0_13) (hc0_13 : l0_13.length ≤ c0_13) (hr0_14 : Kd.C k55 w A0_14 l0_14.length l0_14) (hc0_14 : l0_14.length ≤ c0_14) (hr0_15 : Kd.C k83 w A0_15 l0_15.length l0_15) (hc0_15 : l0_15.length ≤ c0_15) (hr0_16 : Kd.C (Kd.slice 22 (Kd.int .u32)) w A0_16 l0_16.length l0_16) (hc0_16 : l0_16.length ≤ c0_16) (hr0_17 : Kd.C k85 w A0_17 l0_17.length l0_17) (hc0_17 : l0_17.length ≤ c0_17) (hr1_5 : Kd.C (Kd.int .u32) w A1_5 l1_5.length l1_5) (hc1_5 : l1_5.length ≤ c1_5) (h : law_AdvAlone.f a0_0 a0_1 a0_2 a0_3 a0_4 a0_5 a0_6 l0_7 a0_8 a0_9 l0_10 a0_11 l0_12 l0_13 l0_14 l0_15 l0_16 l0_17 a1_0 a1_1 a1_2 a1_3 a1_4 l1_5 = some r) :
    Calls Try.prog 4 #[.agg #[.int .u32 a0_0, .int .i64 a0_1, .int .i64 a0_2, .int .i64 a0_3, .int .i64 a0_4, .int .i64 a0_5, .int .i64 a0_6, .slice A0_7 l0_7.length c0_7, .int .i64 a0_8, .int .i64 a0_9, .slice A0_10 l0_10.length c0_10, .int .i64 a0_11, .slice A0_12 l0_12.length c0_12, .slice A0_13 l0_13.length c0_13, .slice A0_14 l0_14.length c0_14, .slice A0_15 l0_15.length c0_15, .slice A0_16 l0_16.length c0_16, .slice A0_17 l0_17.length c0_17], .agg #[.int .i64 a1_0, .int .i64 a1_1, .int .i64 a1_2, .int .i64 a1_3, .int .i64 a1_4, .slice A1_5 l1_5.length c1_5]] w fun e w' => e = .returned (.bool r) ∧ Below w.heap.size w w' := by
  unfold law_AdvAlone.f at h
  split at h
  rotate_left
  · cases h
  rename_i hg
  obtain rfl := Option.some.inj h
  simp only [Bool.and_eq_true, List.all_eq_true, decide_eq_true_eq] at hg
  obtain ⟨x, hx⟩ : ∃ x : wk.X, x = { c0 := a0_0, c1 := a0_1, c2 := a0_2, c3 := a0_3, c4 := a0_4, c5 := a0_5, c6 := a0_6, dl := l0_7, dn := a0_8, br := a0_9, bs := l0_10, nr := a0_11, ng := l0_12, ns := l0_13, pe := l0_14, lo := l0_15, re := l0_16, le := l0_17 } := ⟨_, rfl⟩
  obtain ⟨s, hs⟩ : ∃ s : wk.S, s = { a7 := A0_7, c7 := c0_7, a10 := A0_10, c10 := c0_10, a12 := A0_12, c12 := c0_12, a13 := A0_13, c13 := c0_13, a14 := A0_14, c14 := c0_14, a15 := A0_15, c15 := c0_15, a16 := A0_16, c16 := c0_16, a17 := A0_17, c17 := c0_17 } := ⟨_, rfl⟩
  obtain ⟨o, ho⟩ : ∃ o : wk.O, o = ⟨a1_0, a1_1, a1_2, a1_3, a1_4, l1_5⟩ := ⟨_, rfl⟩
  have R : wk.Rd w (fun k => k < w.heap.size) x s := by
    rw [hx, hs]
    exact ⟨Kd.V_mk hc0_7 (Kd.C_F (Kd.heap_int .u32) hr0_7), Kd.V_mk hc0_10 (Kd.C_F k92_heap hr0_10), Kd.V_mk hc0_12 (Kd.C_F k94_heap hr0_12), Kd.V_mk hc0_13 (Kd.C_F (Kd.heap_slice 22 (Kd.heap_int .u32)) hr0_13), Kd.V_mk hc0_14 (Kd.C_F k55_heap hr0_14), Kd.V_mk hc0_15 (Kd.C_F k83_heap hr0_15), Kd.V_mk hc0_16 (Kd.C_F (Kd.heap_slice 22 (Kd.heap_int .u32)) hr0_16), Kd.V_mk hc0_17 (Kd.C_F k85_heap hr0_17)⟩
  have VW : Kd.V (Kd.int .u32) 22 w 0 (fun k => k < w.heap.size) (.slice A1_5 o.ws.length c1_5) o.ws := by
    rw [ho]
    exact Kd.V_mk hc1_5 (Kd.C_F (Kd.heap_int .u32) hr1_5)
  have G : Rg x := by
    rw [hx]
    exact ⟨fun q hq => by have := hg.1 q hq; simp only [Lit.wf, IntKind.min, IntKind.max, IntKind.signed, IntKind.bits, Bool.and_eq_true]; simp; omega, fun e he => hg.2 e he⟩
  have H := law_holds x s o A1_5 c1_5 (fun k => k < w.heap.size) w R VW G
  rw [hx, hs, ho] at H
  exact H
end Go.Proofs.Ythlcpbendleihaa.PAdvAlone
