/- The law BoxTurned: for every input that can be read it returns true, and each argument reads as it did; no condition. -/
import Derived.Test.YtifdlpnpbicahaaRows
import Derived.Test.YtifdlpnpbicahaaPBoxTurnedx6
import Derived.Test.YtifdlpnpbicahaaQBoxTurned
import Derived.Test.YtifdlpnpbicahaaPureBoxTurned
import Derived.Test.YtifdlpnpbicahaaOpens
import Derived.WalkKit
import Derived.ProofKit
import Derived.OpenShut
import Derived.ShutString
import Derived.ChangeOld
import Derived.Below
import Derived.SizedLaws
import Derived.Carry
namespace Go.Proofs.Ytifdlpnpbicahaa.boxTurned
open Go Go.ChangeShapes Go.WideShapes Go.ChangeAt Go.RowKit Go.Proofs.Ytifdlpnpbicahaa.PBoxTurned Go.Proofs.YtifdlpnpbicahaaW.PrintWords Go.Proofs.YtifdlpnpbicahaaW.Opens Go.Proofs.Ytifdlpnpbicahaa.Pure
open Go.ChangeMaps (open_string shut_string)
theorem own : ownKnob Try.prog.godebug = none := by kernel_rfl
theorem laidOut : laidOutB Try.prog = true := by kernel_rfl
theorem op3 : Opens Try.prog 3 (Kd.int .i64) (fun y => (Lit.int .i64 y).wf = true) := opens_int Try.underlying3 (by kernel_rfl)
theorem op25 : Opens Try.prog 25 (Kd.int .u32) (fun y => (Lit.int .u32 y).wf = true) := opens_int Try.underlying25 (by kernel_rfl)
theorem op26 : Opens Try.prog 26 (Kd.slice 25 (Kd.int .u32)) (fun y => (y.length ≤ maxLen ∧ ∀ y0 ∈ y, (Lit.int .u32 y0).wf = true)) := opens_slice Try.underlying26 (by kernel_rfl) op25
theorem op43 : Opens Try.prog 43 k43 G43 := opens_struct (fun x : S43 => (x.f0, x.f1, x.f2, x.f3)) (fun y => ⟨y.1, y.2.1, y.2.2.1, y.2.2.2⟩) (fun _ => rfl) Try.underlying43 (by kernel_rfl) (opensF_cons rfl op25 (opensF_cons rfl op25 (opensF_cons rfl op25 (opensF_one rfl op26))))
theorem op22 : Opens Try.prog 22 (Kd.slice 43 k43) (fun y => (y.length ≤ maxLen ∧ ∀ y0 ∈ y, G43 y0)) := opens_slice Try.underlying22 (by kernel_rfl) op43
theorem opA24 : Opens Try.prog 24 (Kd.iso (Kd.pair (Kd.int .i64) (Kd.slice 43 k43)) id) (fun x => (fun p => (fun y : Int => (Lit.int .i64 y).wf = true) p.1 ∧ (fun y : (List S43) => (y.length ≤ maxLen ∧ ∀ y0 ∈ y, G43 y0)) p.2) (id x)) := opens_struct id id (fun _ => rfl) Try.underlying24 (by kernel_rfl) (opensF_cons rfl op3 (opensF_one rfl op22))
theorem opA43 : Opens Try.prog 43 (Kd.iso (Kd.pair (Kd.int .u32) (Kd.pair (Kd.int .u32) (Kd.pair (Kd.int .u32) (Kd.slice 25 (Kd.int .u32))))) id) (fun x => (fun p => (fun y : Int => (Lit.int .u32 y).wf = true) p.1 ∧ (fun p => (fun y : Int => (Lit.int .u32 y).wf = true) p.1 ∧ (fun p => (fun y : Int => (Lit.int .u32 y).wf = true) p.1 ∧ (fun y : (List Int) => (y.length ≤ maxLen ∧ ∀ y0 ∈ y, (Lit.int .u32 y0).wf = true)) p.2) p.2) p.2) (id x)) := opens_struct id id (fun _ => rfl) Try.underlying43 (by kernel_rfl) (opensF_cons rfl op25 (opensF_cons rfl op25 (opensF_cons rfl op25 (opensF_one rfl op26))))
set_option maxRecDepth 100000 in
theorem lifted (os : Os) (started : os.Started) (H : Type) (enc : TypeId × Value → H) :
    ReturnsInHanded {} Try.checked os 7 .any (Rows.boxTurnedSpec.pre6 enc Try.prog Try.f7 Rows.boxTurnedRow.domain false) (Rows.boxTurnedSpec.post enc Try.prog Try.f7 false true false false) := by
  refine returnsInHanded_of_change_sized (C := Try.checked) own started (by kernel_rfl) Try.func7
    (ChangeSpec.witness6 (enc := enc) (C := Try.checked) false ⟨#[], #[.agg #[.int .i64 0, .slice none 0 0], .agg #[.int .u32 0, .int .u32 0, .int .u32 0, .slice none 0 0], .agg #[.int .u32 0, .int .u32 0, .int .u32 0, .slice none 0 0], .int .u32 0, .int .u32 0, .int .u32 0], []⟩ 8 (by kernel_rfl) (by kernel_rfl) (by kernel_rfl) (by kernel_rfl)) ?_
  intro W base args ds gs before hval0 hW _ _ _
  have hval : ∀ (j : Nat) t v, Try.f7.params[j]? = some t → args[j]? = some v → Value.okWide Try.prog W .any base t v := hval0
  have hW' := hW
  obtain ⟨p, q, hA0, hV, rfl, hfz, hnd⟩ := hW
  have hA : DataW.TrodAll enc Try.prog W 0 (fun _ => true) true Try.f7.params.toList args.toList ds p := hA0
  rw [Try.params7] at hA hval
  obtain ⟨v0, vs0, e0, es0, p0, q0, hargs, rfl, rfl, h0, r0⟩ := trodAll_cons hA
  obtain ⟨v1, vs1, e1, es1, p1, q1, rfl, rfl, rfl, h1, r1⟩ := trodAll_cons r0
  obtain ⟨v2, vs2, e2, es2, p2, q2, rfl, rfl, rfl, h2, r2⟩ := trodAll_cons r1
  obtain ⟨v3, vs3, e3, es3, p3, q3, rfl, rfl, rfl, h3, r3⟩ := trodAll_cons r2
  obtain ⟨v4, vs4, e4, es4, p4, q4, rfl, rfl, rfl, h4, r4⟩ := trodAll_cons r3
  obtain ⟨v5, vs5, e5, es5, p5, q5, rfl, rfl, rfl, h5, r5⟩ := trodAll_cons r4
  obtain ⟨rfl, rfl, rfl⟩ := trodAll_nil r5
  obtain rfl : args = #[v0, v1, v2, v3, v4, v5] := by cases args; simp_all
  obtain ⟨rfl, rfl⟩ := trodVars_none hV
  have k0 := h0
  have lt0 : ∀ x ∈ p0, x.block < W.heap.size := by obtain ⟨m, hm⟩ := k0; exact DataW.trod_lt m _ _ _ hm
  obtain ⟨cs0, rfl, hz0⟩ := okWide_struct Try.underlying24 (hval 0 24 v0 rfl rfl)
  obtain ⟨fuel0, hf0⟩ := h0
  obtain ⟨⟨a0_0, l0_1⟩, hK0, ⟨gs0_0, gs0_1⟩⟩ := opA24.2 _ _ _ _ _ _ _ _ _ hf0
  obtain ⟨cl0, hcl0⟩ : ∃ cl, cl = (Value.agg cs0).cells.toList := ⟨_, rfl⟩
  rw [← hcl0] at hK0
  obtain ⟨_, _, rfl, rfl, ⟨A0_1, c0_1, rfl, hc0_1, hr0_1⟩⟩ := hK0
  obtain rfl : cs0 = #[.int .i64 a0_0, .slice A0_1 l0_1.length c0_1] := by
    apply Array.toList_inj.mp
    exact hcl0.symm
  have k1 := h1
  have lt1 : ∀ x ∈ p1, x.block < W.heap.size := by obtain ⟨m, hm⟩ := k1; exact DataW.trod_lt m _ _ _ hm
  obtain ⟨cs1, rfl, hz1⟩ := okWide_struct Try.underlying43 (hval 1 43 v1 rfl rfl)
  obtain ⟨fuel1, hf1⟩ := h1
  obtain ⟨⟨a1_0, a1_1, a1_2, l1_3⟩, hK1, ⟨gs1_0, gs1_1, gs1_2, gs1_3⟩⟩ := opA43.2 _ _ _ _ _ _ _ _ _ hf1
  obtain ⟨cl1, hcl1⟩ : ∃ cl, cl = (Value.agg cs1).cells.toList := ⟨_, rfl⟩
  rw [← hcl1] at hK1
  obtain ⟨_, _, rfl, rfl, ⟨_, _, rfl, rfl, ⟨_, _, rfl, rfl, ⟨A1_3, c1_3, rfl, hc1_3, hr1_3⟩⟩⟩⟩ := hK1
  obtain rfl : cs1 = #[.int .u32 a1_0, .int .u32 a1_1, .int .u32 a1_2, .slice A1_3 l1_3.length c1_3] := by
    apply Array.toList_inj.mp
    exact hcl1.symm
  have k2 := h2
  have lt2 : ∀ x ∈ p2, x.block < W.heap.size := by obtain ⟨m, hm⟩ := k2; exact DataW.trod_lt m _ _ _ hm
  obtain ⟨cs2, rfl, hz2⟩ := okWide_struct Try.underlying43 (hval 2 43 v2 rfl rfl)
  obtain ⟨fuel2, hf2⟩ := h2
  obtain ⟨⟨a2_0, a2_1, a2_2, l2_3⟩, hK2, ⟨gs2_0, gs2_1, gs2_2, gs2_3⟩⟩ := opA43.2 _ _ _ _ _ _ _ _ _ hf2
  obtain ⟨cl2, hcl2⟩ : ∃ cl, cl = (Value.agg cs2).cells.toList := ⟨_, rfl⟩
  rw [← hcl2] at hK2
  obtain ⟨_, _, rfl, rfl, ⟨_, _, rfl, rfl, ⟨_, _, rfl, rfl, ⟨A2_3, c2_3, rfl, hc2_3, hr2_3⟩⟩⟩⟩ := hK2
  obtain rfl : cs2 = #[.int .u32 a2_0, .int .u32 a2_1, .int .u32 a2_2, .slice A2_3 l2_3.length c2_3] := by
    apply Array.toList_inj.mp
    exact hcl2.symm
  have k3 := h3
  have lt3 : ∀ x ∈ p3, x.block < W.heap.size := by obtain ⟨m, hm⟩ := k3; exact DataW.trod_lt m _ _ _ hm
  obtain ⟨a3, rfl, _, _, w3⟩ := open_int Try.underlying25 (hval 3 25 v3 rfl rfl) h3
  have k4 := h4
  have lt4 : ∀ x ∈ p4, x.block < W.heap.size := by obtain ⟨m, hm⟩ := k4; exact DataW.trod_lt m _ _ _ hm
  obtain ⟨a4, rfl, _, _, w4⟩ := open_int Try.underlying25 (hval 4 25 v4 rfl rfl) h4
  have k5 := h5
  have lt5 : ∀ x ∈ p5, x.block < W.heap.size := by obtain ⟨m, hm⟩ := k5; exact DataW.trod_lt m _ _ _ hm
  obtain ⟨a5, rfl, _, _, w5⟩ := open_int Try.underlying25 (hval 5 25 v5 rfl rfl) h5
  obtain ⟨k, hP⟩ := Pure.BoxTurned a0_0 l0_1 a1_0 a1_1 a1_2 l1_3 a2_0 a2_1 a2_2 l2_3 a3 a4 a5 gs0_0 gs0_1.1 gs0_1.2 gs1_0 gs1_1 gs1_2 gs1_3.1 gs1_3.2 gs2_0 gs2_1 gs2_2 gs2_3.1 gs2_3.2 w3 w4 w5
  refine (chamberlainlaw07_BoxTurned.calls k a0_0 A0_1 c0_1 l0_1 a1_0 a1_1 a1_2 A1_3 c1_3 l1_3 a2_0 a2_1 a2_2 A2_3 c2_3 l2_3 a3 a4 a5 true W hr0_1 hc0_1 hr1_3 hc1_3 hr2_3 hc2_3 hP rfl).mono fun e W' ⟨he, bel0⟩ => ?_
  have bel : Below W.heap.size W W' := bel0
  subst he
  exact ⟨_, rfl, _, _, _, [], _, [], hW', trodAll_mk1 (shut_bool Try.underlying4 _), (trodAll_cons_mk (Below.trod laidOut (by kernel_rfl) (of_decide_eq_true (by kernel_rfl)) k0 bel lt0) (trodAll_cons_mk (Below.trod laidOut (by kernel_rfl) (of_decide_eq_true (by kernel_rfl)) k1 bel lt1) (trodAll_cons_mk (Below.trod laidOut (by kernel_rfl) (of_decide_eq_true (by kernel_rfl)) k2 bel lt2) (trodAll_cons_mk (Below.trod laidOut (by kernel_rfl) (of_decide_eq_true (by kernel_rfl)) k3 bel lt3) (trodAll_cons_mk (Below.trod laidOut (by kernel_rfl) (of_decide_eq_true (by kernel_rfl)) k4 bel lt4) (trodAll_cons_mk (Below.trod laidOut (by kernel_rfl) (of_decide_eq_true (by kernel_rfl)) k5 bel lt5) trodAll_mk0)))))), rfl, bel.frame _, fun h => by cases h⟩
theorem over : Rows.boxTurnedRow.holds Try.pinned (OpenSpec.ofChange Rows.boxTurnedSpec) :=
  OpenClaim.holds_of_wide 7 Try.f7 rfl rfl rfl rfl rfl rfl rfl ⟨rfl, rfl, rfl, rfl, rfl⟩ rfl rfl rfl rfl rfl (by kernel_rfl) Try.func7 (by kernel_rfl)
    (of_decide_eq_true (by kernel_rfl)) (by unfold Func.isWrapper; first | (rw [if_pos (by decide +kernel)]; kernel_rfl) | (rw [if_neg (by decide +kernel)]; exact ⟨rfl, rfl⟩))
    (fun os started H enc _ => lifted os started H enc)
theorem proved : Rows.BoxTurnedSaid := over
#print axioms proved
end Go.Proofs.Ytifdlpnpbicahaa.boxTurned
namespace Go.Proofs.Ytifdlpnpbicahaa
/-- The row, under a short name, for the claim. -/
theorem boxTurned_holds : Rows.BoxTurnedSaid := boxTurned.proved
end Go.Proofs.Ytifdlpnpbicahaa
