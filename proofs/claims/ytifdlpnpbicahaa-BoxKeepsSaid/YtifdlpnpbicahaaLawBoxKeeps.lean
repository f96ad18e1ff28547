/- The law BoxKeeps: for every input that can be read it returns true, and each argument reads as it did; no condition. -/
import Derived.Test.YtifdlpnpbicahaaRows
import Derived.Test.YtifdlpnpbicahaaPBoxKeepsx6
import Derived.Test.YtifdlpnpbicahaaQBoxKeeps
import Derived.Test.YtifdlpnpbicahaaPureBoxKeeps
import Derived.Test.YtifdlpnpbicahaaOpens
import Derived.WalkKit
import Derived.ProofKit
import Derived.OpenShut
import Derived.ShutString
import Derived.ChangeOld
import Derived.Below
import Derived.SizedLaws
import Derived.Carry
namespace Go.Proofs.Ytifdlpnpbicahaa.boxKeeps
open Go Go.ChangeShapes Go.WideShapes Go.ChangeAt Go.RowKit Go.Proofs.Ytifdlpnpbicahaa.PBoxKeeps Go.Proofs.YtifdlpnpbicahaaW.PrintWords Go.Proofs.YtifdlpnpbicahaaW.Opens Go.Proofs.Ytifdlpnpbicahaa.Pure
open Go.ChangeMaps (open_string shut_string)
theorem own : ownKnob Try.prog.godebug = none := by kernel_rfl
theorem laidOut : laidOutB Try.prog = true := by kernel_rfl
theorem op3 : Opens Try.prog 3 (Kd.int .i64) (fun y => (Lit.int .i64 y).wf = true) := opens_int Try.underlying3 (by kernel_rfl)
theorem op25 : Opens Try.prog 25 (Kd.int .u32) (fun y => (Lit.int .u32 y).wf = true) := opens_int Try.underlying25 (by kernel_rfl)
theorem op26 : Opens Try.prog 26 (Kd.slice 25 (Kd.int .u32)) (fun y => (y.length ≤ maxLen ∧ ∀ y0 ∈ y, (Lit.int .u32 y0).wf = true)) := opens_slice Try.underlying26 (by kernel_rfl) op25
theorem op43 : Opens Try.prog 43 k43 G43 := opens_struct (fun x : S43 => (x.f0, x.f1, x.f2, x.f3)) (fun y => ⟨y.1, y.2.1, y.2.2.1, y.2.2.2⟩) (fun _ => rfl) Try.underlying43 (by kernel_rfl) (opensF_cons rfl op25 (opensF_cons rfl op25 (opensF_cons rfl op25 (opensF_one rfl op26))))
theorem op22 : Opens Try.prog 22 (Kd.slice 43 k43) (fun y => (y.length ≤ maxLen ∧ ∀ y0 ∈ y, G43 y0)) := opens_slice Try.underlying22 (by kernel_rfl) op43
theorem opA24 : Opens Try.prog 24 (Kd.iso (Kd.pair (Kd.int .i64) (Kd.slice 43 k43)) id) (fun x => (fun p => (fun y : Int => (Lit.int .i64 y).wf = true) p.1 ∧ (fun y : (List S43) => (y.length ≤ maxLen ∧ ∀ y0 ∈ y, G43 y0)) p.2) (id x)) := opens_struct id id (fun _ => rfl) Try.underlying24 (by kernel_rfl) (opensF_cons rfl op3 (opensF_one rfl op22))
set_option maxRecDepth 100000 in
theorem lifted (os : Os) (started : os.Started) (H : Type) (enc : TypeId × Value → H) :
    ReturnsInHanded {} Try.checked os 6 .any (Rows.boxKeepsSpec.pre6 enc Try.prog Try.f6 Rows.boxKeepsRow.domain false) (Rows.boxKeepsSpec.post enc Try.prog Try.f6 false true false false) := by
  refine returnsInHanded_of_change_sized (C := Try.checked) own started (by kernel_rfl) Try.func6
    (ChangeSpec.witness6 (enc := enc) (C := Try.checked) false ⟨#[], #[.agg #[.int .i64 0, .slice none 0 0], .int .u32 0, .int .u32 0, .int .u32 0, .slice none 0 0], []⟩ 8 (by kernel_rfl) (by kernel_rfl) (by kernel_rfl) (by kernel_rfl)) ?_
  intro W base args ds gs before hval0 hW _ _ _
  have hval : ∀ (j : Nat) t v, Try.f6.params[j]? = some t → args[j]? = some v → Value.okWide Try.prog W .any base t v := hval0
  have hW' := hW
  obtain ⟨p, q, hA0, hV, rfl, hfz, hnd⟩ := hW
  have hA : DataW.TrodAll enc Try.prog W 0 (fun _ => true) true Try.f6.params.toList args.toList ds p := hA0
  rw [Try.params6] at hA hval
  obtain ⟨v0, vs0, e0, es0, p0, q0, hargs, rfl, rfl, h0, r0⟩ := trodAll_cons hA
  obtain ⟨v1, vs1, e1, es1, p1, q1, rfl, rfl, rfl, h1, r1⟩ := trodAll_cons r0
  obtain ⟨v2, vs2, e2, es2, p2, q2, rfl, rfl, rfl, h2, r2⟩ := trodAll_cons r1
  obtain ⟨v3, vs3, e3, es3, p3, q3, rfl, rfl, rfl, h3, r3⟩ := trodAll_cons r2
  obtain ⟨v4, vs4, e4, es4, p4, q4, rfl, rfl, rfl, h4, r4⟩ := trodAll_cons r3
  obtain ⟨rfl, rfl, rfl⟩ := trodAll_nil r4
  obtain rfl : args = #[v0, v1, v2, v3, v4] := by cases args; simp_all
  obtain ⟨rfl, rfl⟩ := trodVars_none hV
  have k0 := h0
  have lt0 : ∀ x ∈ p0, x.block < W.heap.size := by obtain ⟨m, hm⟩ := k0; exact DataW.trod_lt m _ _ _ hm
  obtain ⟨cs0, rfl, hz0⟩ := okWide_struct Try.underlying24 (hval 0 24 v0 rfl rfl)
  obtain ⟨fuel0, hf0⟩ := h0
  obtain ⟨⟨a0_0, l0_1⟩, hK0, ⟨gs0_0, gs0_1⟩⟩ := opA24.2 _ _ _ _ _ _ _ _ _ hf0
  obtain ⟨cl0, hcl0⟩ : ∃ cl, cl = (Value.agg cs0).cells.toList := ⟨_, rfl⟩
  rw [← hcl0] at hK0
  obtain ⟨_, _, rfl, rfl, ⟨A0_1, c0_1, rfl, hc0_1, hr0_1⟩⟩ := hK0
  obtain rfl : cs0 = #[.int .i64 a0_0, .slice A0_1 l0_1.length c0_1] := by
    apply Array.toList_inj.mp
    exact hcl0.symm
  have k1 := h1
  have lt1 : ∀ x ∈ p1, x.block < W.heap.size := by obtain ⟨m, hm⟩ := k1; exact DataW.trod_lt m _ _ _ hm
  obtain ⟨a1, rfl, _, _, w1⟩ := open_int Try.underlying25 (hval 1 25 v1 rfl rfl) h1
  have k2 := h2
  have lt2 : ∀ x ∈ p2, x.block < W.heap.size := by obtain ⟨m, hm⟩ := k2; exact DataW.trod_lt m _ _ _ hm
  obtain ⟨a2, rfl, _, _, w2⟩ := open_int Try.underlying25 (hval 2 25 v2 rfl rfl) h2
  have k3 := h3
  have lt3 : ∀ x ∈ p3, x.block < W.heap.size := by obtain ⟨m, hm⟩ := k3; exact DataW.trod_lt m _ _ _ hm
  obtain ⟨a3, rfl, _, _, w3⟩ := open_int Try.underlying25 (hval 3 25 v3 rfl rfl) h3
  have k4 := h4
  have lt4 : ∀ x ∈ p4, x.block < W.heap.size := by obtain ⟨m, hm⟩ := k4; exact DataW.trod_lt m _ _ _ hm
  obtain ⟨a4, len4, cap4, rfl⟩ := okWide_slice Try.underlying26 (hval 4 26 v4 rfl rfl)
  obtain ⟨fuel4, hf4⟩ := h4
  obtain ⟨l4, A4, c4, he4, hc4, hm4, hr4, g4⟩ := opens_row Try.underlying26 op25 hf4
  simp only [Value.cells, List.cons.injEq, Value.slice.injEq, and_true] at he4
  obtain ⟨x1, x2, x3⟩ := he4
  have y1 := x1.symm
  have y3 := x3.symm
  clear x1 x3
  subst y1 x2 y3
  have hP := Pure.BoxKeeps a0_0 l0_1 a1 a2 a3 l4 gs0_0 gs0_1.1 gs0_1.2 w1 w2 w3 (Nat.le_trans hc4 hm4) g4
  refine (chamberlainlaw07_BoxKeeps.calls a0_0 A0_1 c0_1 l0_1 a1 a2 a3 A4 c4 l4 true W hr0_1 hc0_1 hr4 hc4 hP rfl).mono fun e W' ⟨he, bel0⟩ => ?_
  have bel : Below W.heap.size W W' := bel0
  subst he
  exact ⟨_, rfl, _, _, _, [], _, [], hW', trodAll_mk1 (shut_bool Try.underlying4 _), (trodAll_cons_mk (Below.trod laidOut (by kernel_rfl) (of_decide_eq_true (by kernel_rfl)) k0 bel lt0) (trodAll_cons_mk (Below.trod laidOut (by kernel_rfl) (of_decide_eq_true (by kernel_rfl)) k1 bel lt1) (trodAll_cons_mk (Below.trod laidOut (by kernel_rfl) (of_decide_eq_true (by kernel_rfl)) k2 bel lt2) (trodAll_cons_mk (Below.trod laidOut (by kernel_rfl) (of_decide_eq_true (by kernel_rfl)) k3 bel lt3) (trodAll_cons_mk (Below.trod laidOut (by kernel_rfl) (of_decide_eq_true (by kernel_rfl)) k4 bel lt4) trodAll_mk0))))), rfl, bel.frame _, fun h => by cases h⟩
theorem over : Rows.boxKeepsRow.holds Try.pinned (OpenSpec.ofChange Rows.boxKeepsSpec) :=
  OpenClaim.holds_of_wide 6 Try.f6 rfl rfl rfl rfl rfl rfl rfl ⟨rfl, rfl, rfl, rfl, rfl⟩ rfl rfl rfl rfl rfl (by kernel_rfl) Try.func6 (by kernel_rfl)
    (of_decide_eq_true (by kernel_rfl)) (by unfold Func.isWrapper; first | (rw [if_pos (by decide +kernel)]; kernel_rfl) | (rw [if_neg (by decide +kernel)]; exact ⟨rfl, rfl⟩))
    (fun os started H enc _ => lifted os started H enc)
theorem proved : Rows.BoxKeepsSaid := over
#print axioms proved
end Go.Proofs.Ytifdlpnpbicahaa.boxKeeps
namespace Go.Proofs.Ytifdlpnpbicahaa
/-- The row, under a short name, for the claim. -/
theorem boxKeeps_holds : Rows.BoxKeepsSaid := boxKeeps.proved
end Go.Proofs.Ytifdlpnpbicahaa
