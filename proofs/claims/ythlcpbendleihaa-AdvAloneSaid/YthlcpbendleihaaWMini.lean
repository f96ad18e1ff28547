-- Written for this claim (wip/tools/mini.py): short words.
import Derived.Test.YthlcpbendleihaaWWords
import Derived.Test.YthlcpbendleihaaWMore
import Derived.Test.YthlcpbendleihaaWLast
namespace Go.Proofs.YthlcpbendleihaaW.PrintWords
open Go Go.RowKit
set_option linter.unusedVariables false
abbrev Y : Bool := true
abbrev Z : Bool := false
theorem eW_ {p : Prop} (h : p := by first | rfl | (simp [errW_none, errW_some] <;> rfl) | (simp [*, errW_none, errW_some] <;> rfl)) : p := h
theorem hB_ {p : Prop} (h : p := by repeat (first | (with_reducible first | exact HB.out | apply below_alloc | apply pw_below_drewN | apply below_drew1) | exact HB.out)) : p := h
theorem sD_ {p : Prop} (h : p := by first | rfl | (simp; done) | (simp [*]; done)) : p := h
theorem dR_ {p : Prop} (h : p := by repeat (first | exact Drawn0.refl _ | apply Drawn0.step)) : p := h
theorem aS_ {p : Prop} (h : p := by first | (with_reducible assumption) | assumption) : p := h
theorem bR_ {p : Prop} (h : p := by repeat (first | exact Below.refl _ _ | apply pw_below_drewN | apply below_drew1 | apply below_alloc)) : p := h
theorem mS_ {p : Prop} (h : p := by first | done | rfl | (simp only [List.map_toArray, List.map_cons, List.map_nil]; done) | (simp only [List.map_toArray, List.map_cons, List.map_nil]; rfl)) : p := h
theorem mD_ {p : Prop} (h : p := by (try simp only [List.map_toArray, List.map_cons, List.map_nil]); first | done | rfl | (simp only [List.length_drop, List.length_take]; rfl)) : p := h
theorem oR_ {p : Prop} (h : p := by first | omega | exact Nat.le_refl _) : p := h
theorem hN_ {N : List Nat} {W W' : World} (HN : ∀ q ∈ N, q < W.heap.size) (h : W.heap.size ≤ W'.heap.size) : ∀ q ∈ N, q < W'.heap.size := fun q hq => Nat.lt_of_lt_of_le (HN q hq) h
theorem _root_.Go.RowKit.Below.tr_ {w W W' : World} (HB : Below w.heap.size w W) (hb : Below W.heap.size W W') : Below w.heap.size w W' := HB.trans (hb.mono HB.size)
end Go.Proofs.YthlcpbendleihaaW.PrintWords
