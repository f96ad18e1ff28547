/- The law NetKeeps: for every input that can be read it returns true, and each argument reads as it did; no condition. -/
import Derived.Test.YtlbfdmoocgjiaaaRows
import Derived.Test.YtlbfdmoocgjiaaaPNetKeepsx8
import Derived.Test.YtlbfdmoocgjiaaaQNetKeeps
import Derived.Test.YtlbfdmoocgjiaaaPureNetKeeps
import Derived.Test.YtlbfdmoocgjiaaaOpens
import Derived.WalkKit
import Derived.ProofKit
import Derived.OpenShut
import Derived.ShutString
import Derived.ChangeOld
import Derived.Below
import Derived.SizedLaws
import Derived.Carry
namespace Go.Proofs.Ytlbfdmoocgjiaaa.netKeeps
open Go Go.ChangeShapes Go.WideShapes Go.ChangeAt Go.RowKit Go.Proofs.Ytlbfdmoocgjiaaa.PNetKeeps Go.Proofs.YtlbfdmoocgjiaaaW.PrintWords Go.Proofs.YtlbfdmoocgjiaaaW.Opens Go.Proofs.Ytlbfdmoocgjiaaa.Pure
open Go.ChangeMaps (open_string shut_string)
theorem own : ownKnob Try.prog.godebug = none := by kernel_rfl
theorem laidOut : laidOutB Try.prog = true := by kernel_rfl
theorem op3 : Opens Try.prog 3 (Kd.int .i64) (fun y => (Lit.int .i64 y).wf = true) := opens_int Try.underlying3 (by kernel_rfl)
theorem op26 : Opens Try.prog 26 (Kd.int .u32) (fun y => (Lit.int .u32 y).wf = true) := opens_int Try.underlying26 (by kernel_rfl)
theorem op27 : Opens Try.prog 27 (Kd.slice 26 (Kd.int .u32)) (fun y => (y.length ≤ maxLen ∧ ∀ y0 ∈ y, (Lit.int .u32 y0).wf = true)) := opens_slice Try.underlying27 (by kernel_rfl) op26
theorem op29 : Opens Try.prog 29 k29 G29 := opens_struct (fun x : S29 => (x.f0, x.f1)) (fun y => ⟨y.1, y.2⟩) (fun _ => rfl) Try.underlying29 (by kernel_rfl) (opensF_cons rfl op26 (opensF_one rfl op27))
theorem op22 : Opens Try.prog 22 (Kd.slice 29 k29) (fun y => (y.length ≤ maxLen ∧ ∀ y0 ∈ y, G29 y0)) := opens_slice Try.underlying22 (by kernel_rfl) op29
theorem op23 : Opens Try.prog 23 (Kd.slice 27 (Kd.slice 26 (Kd.int .u32))) (fun y => (y.length ≤ maxLen ∧ ∀ y0 ∈ y, (y0.length ≤ maxLen ∧ ∀ y1 ∈ y0, (Lit.int .u32 y1).wf = true))) := opens_slice Try.underlying23 (by kernel_rfl) op27
theorem opA25 : Opens Try.prog 25 (Kd.iso (Kd.pair (Kd.int .i64) (Kd.pair (Kd.slice 29 k29) (Kd.slice 27 (Kd.slice 26 (Kd.int .u32))))) id) (fun x => (fun p => (fun y : Int => (Lit.int .i64 y).wf = true) p.1 ∧ (fun p => (fun y : (List S29) => (y.length ≤ maxLen ∧ ∀ y0 ∈ y, G29 y0)) p.1 ∧ (fun y : (List (List Int)) => (y.length ≤ maxLen ∧ ∀ y0 ∈ y, (y0.length ≤ maxLen ∧ ∀ y1 ∈ y0, (Lit.int .u32 y1).wf = true))) p.2) p.2) (id x)) := opens_struct id id (fun _ => rfl) Try.underlying25 (by kernel_rfl) (opensF_cons rfl op3 (opensF_cons rfl op22 (opensF_one rfl op23)))
theorem opA29 : Opens Try.prog 29 (Kd.iso (Kd.pair (Kd.int .u32) (Kd.slice 26 (Kd.int .u32))) id) (fun x => (fun p => (fun y : Int => (Lit.int .u32 y).wf = true) p.1 ∧ (fun y : (List Int) => (y.length ≤ maxLen ∧ ∀ y0 ∈ y, (Lit.int .u32 y0).wf = true)) p.2) (id x)) := opens_struct id id (fun _ => rfl) Try.underlying29 (by kernel_rfl) (opensF_cons rfl op26 (opensF_one rfl op27))
set_option maxRecDepth 100000 in
theorem lifted (os : Os) (started : os.Started) (H : Type) (enc : TypeId × Value → H) :
    ReturnsInHanded {} Try.checked os 6 .any (Rows.netKeepsSpec.pre6 enc Try.prog Try.f6 Rows.netKeepsRow.domain false) (Rows.netKeepsSpec.post enc Try.prog Try.f6 false true false false) := by
  refine returnsInHanded_of_change_sized (C := Try.checked) own started (by kernel_rfl) Try.func6
    (ChangeSpec.witness6 (enc := enc) (C := Try.checked) false ⟨#[], #[.agg #[.int .i64 0, .slice none 0 0, .slice none 0 0], .agg #[.int .u32 0, .slice none 0 0], .int .i64 0], []⟩ 8 (by kernel_rfl) (by kernel_rfl) (by kernel_rfl) (by kernel_rfl)) ?_
  intro W base args ds gs before hval0 hW _ _ _
  have hval : ∀ (j : Nat) t v, Try.f6.params[j]? = some t → args[j]? = some v → Value.okWide Try.prog W .any base t v := hval0
  have hW' := hW
  obtain ⟨p, q, hA0, hV, rfl, hfz, hnd⟩ := hW
  have hA : DataW.TrodAll enc Try.prog W 0 (fun _ => true) true Try.f6.params.toList args.toList ds p := hA0
  rw [Try.params6] at hA hval
  obtain ⟨v0, vs0, e0, es0, p0, q0, hargs, rfl, rfl, h0, r0⟩ := trodAll_cons hA
  obtain ⟨v1, vs1, e1, es1, p1, q1, rfl, rfl, rfl, h1, r1⟩ := trodAll_cons r0
  obtain ⟨v2, vs2, e2, es2, p2, q2, rfl, rfl, rfl, h2, r2⟩ := trodAll_cons r1
  obtain ⟨rfl, rfl, rfl⟩ := trodAll_nil r2
  obtain rfl : args = #[v0, v1, v2] := by cases args; simp_all
  obtain ⟨rfl, rfl⟩ := trodVars_none hV
  have k0 := h0
  have lt0 : ∀ x ∈ p0, x.block < W.heap.size := by obtain ⟨m, hm⟩ := k0; exact DataW.trod_lt m _ _ _ hm
  obtain ⟨cs0, rfl, hz0⟩ := okWide_struct Try.underlying25 (hval 0 25 v0 rfl rfl)
  obtain ⟨fuel0, hf0⟩ := h0
  obtain ⟨⟨a0_0, l0_1, l0_2⟩, hK0, ⟨gs0_0, gs0_1, gs0_2⟩⟩ := opA25.2 _ _ _ _ _ _ _ _ _ hf0
  obtain ⟨cl0, hcl0⟩ : ∃ cl, cl = (Value.agg cs0).cells.toList := ⟨_, rfl⟩
  rw [← hcl0] at hK0
  obtain ⟨_, _, rfl, rfl, ⟨_, _, rfl, ⟨A0_1, c0_1, rfl, hc0_1, hr0_1⟩, ⟨A0_2, c0_2, rfl, hc0_2, hr0_2⟩⟩⟩ := hK0
  obtain rfl : cs0 = #[.int .i64 a0_0, .slice A0_1 l0_1.length c0_1, .slice A0_2 l0_2.length c0_2] := by
    apply Array.toList_inj.mp
    exact hcl0.symm
  have k1 := h1
  have lt1 : ∀ x ∈ p1, x.block < W.heap.size := by obtain ⟨m, hm⟩ := k1; exact DataW.trod_lt m _ _ _ hm
  obtain ⟨cs1, rfl, hz1⟩ := okWide_struct Try.underlying29 (hval 1 29 v1 rfl rfl)
  obtain ⟨fuel1, hf1⟩ := h1
  obtain ⟨⟨a1_0, l1_1⟩, hK1, ⟨gs1_0, gs1_1⟩⟩ := opA29.2 _ _ _ _ _ _ _ _ _ hf1
  obtain ⟨cl1, hcl1⟩ : ∃ cl, cl = (Value.agg cs1).cells.toList := ⟨_, rfl⟩
  rw [← hcl1] at hK1
  obtain ⟨_, _, rfl, rfl, ⟨A1_1, c1_1, rfl, hc1_1, hr1_1⟩⟩ := hK1
  obtain rfl : cs1 = #[.int .u32 a1_0, .slice A1_1 l1_1.length c1_1] := by
    apply Array.toList_inj.mp
    exact hcl1.symm
  have k2 := h2
  have lt2 : ∀ x ∈ p2, x.block < W.heap.size := by obtain ⟨m, hm⟩ := k2; exact DataW.trod_lt m _ _ _ hm
  obtain ⟨a2, rfl, _, _, w2⟩ := open_int Try.underlying3 (hval 2 3 v2 rfl rfl) h2
  have hP := Pure.NetKeeps a0_0 l0_1 l0_2 a1_0 l1_1 a2 gs0_0 gs0_1.1 gs0_1.2 gs0_2.1 gs0_2.2 gs1_0 gs1_1.1 gs1_1.2 w2
  refine (chamberlainlaw06_NetKeeps.calls a0_0 A0_1 c0_1 l0_1 A0_2 c0_2 l0_2 a1_0 A1_1 c1_1 l1_1 a2 true W hr0_1 hc0_1 hr0_2 hc0_2 hr1_1 hc1_1 hP rfl).mono fun e W' ⟨he, bel0⟩ => ?_
  have bel : Below W.heap.size W W' := bel0
  subst he
  exact ⟨_, rfl, _, _, _, [], _, [], hW', trodAll_mk1 (shut_bool Try.underlying4 _), (trodAll_cons_mk (Below.trod laidOut (by kernel_rfl) (of_decide_eq_true (by kernel_rfl)) k0 bel lt0) (trodAll_cons_mk (Below.trod laidOut (by kernel_rfl) (of_decide_eq_true (by kernel_rfl)) k1 bel lt1) (trodAll_cons_mk (Below.trod laidOut (by kernel_rfl) (of_decide_eq_true (by kernel_rfl)) k2 bel lt2) trodAll_mk0))), rfl, bel.frame _, fun h => by cases h⟩
theorem over : Rows.netKeepsRow.holds Try.pinned (OpenSpec.ofChange Rows.netKeepsSpec) :=
  OpenClaim.holds_of_wide 6 Try.f6 rfl rfl rfl rfl rfl rfl rfl ⟨rfl, rfl, rfl, rfl, rfl⟩ rfl rfl rfl rfl rfl (by kernel_rfl) Try.func6 (by kernel_rfl)
    (of_decide_eq_true (by kernel_rfl)) (by unfold Func.isWrapper; first | (rw [if_pos (by decide +kernel)]; kernel_rfl) | (rw [if_neg (by decide +kernel)]; exact ⟨rfl, rfl⟩))
    (fun os started H enc _ => lifted os started H enc)
theorem proved : Rows.NetKeepsSaid := over
#print axioms proved
end Go.Proofs.Ytlbfdmoocgjiaaa.netKeeps
namespace Go.Proofs.Ytlbfdmoocgjiaaa
/-- The row, under a short name, for the claim. -/
theorem netKeeps_holds : Rows.NetKeepsSaid := netKeeps.proved
end Go.Proofs.Ytlbfdmoocgjiaaa
