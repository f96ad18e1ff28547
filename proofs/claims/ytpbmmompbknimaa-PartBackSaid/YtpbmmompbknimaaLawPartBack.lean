/- The law PartBack: for every input that can be read it returns true, and each argument reads as it did; no condition. -/
import Derived.Test.YtpbmmompbknimaaRows
import Derived.Test.YtpbmmompbknimaaPPartBackx4
import Derived.Test.YtpbmmompbknimaaQPartBack
import Derived.Test.YtpbmmompbknimaaPurePartBack
import Derived.Test.YtpbmmompbknimaaOpens
import Derived.WalkKit
import Derived.ProofKit
import Derived.OpenShut
import Derived.ShutString
import Derived.ChangeOld
import Derived.Below
import Derived.SizedLaws
import Derived.Carry
namespace Go.Proofs.Ytpbmmompbknimaa.partBack
open Go Go.ChangeShapes Go.WideShapes Go.ChangeAt Go.RowKit Go.Proofs.Ytpbmmompbknimaa.PPartBack Go.Proofs.YtpbmmompbknimaaW.PrintWords Go.Proofs.YtpbmmompbknimaaW.Opens Go.Proofs.Ytpbmmompbknimaa.Pure
open Go.ChangeMaps (open_string shut_string)
theorem own : ownKnob Try.prog.godebug = none := by kernel_rfl
theorem laidOut : laidOutB Try.prog = true := by kernel_rfl
theorem op22 : Opens Try.prog 22 (Kd.int .u32) (fun y => (Lit.int .u32 y).wf = true) := opens_int Try.underlying22 (by kernel_rfl)
theorem op26 : Opens Try.prog 26 (Kd.slice 22 (Kd.int .u32)) (fun y => (y.length ≤ maxLen ∧ ∀ y0 ∈ y, (Lit.int .u32 y0).wf = true)) := opens_slice Try.underlying26 (by kernel_rfl) op22
theorem opA24 : Opens Try.prog 24 (Kd.iso (Kd.pair (Kd.int .u32) (Kd.pair (Kd.int .u32) (Kd.pair (Kd.int .u32) (Kd.pair (Kd.int .u32) (Kd.pair (Kd.int .u32) (Kd.pair (Kd.int .u32) (Kd.int .u32))))))) id) (fun x => (fun p => (fun y : Int => (Lit.int .u32 y).wf = true) p.1 ∧ (fun p => (fun y : Int => (Lit.int .u32 y).wf = true) p.1 ∧ (fun p => (fun y : Int => (Lit.int .u32 y).wf = true) p.1 ∧ (fun p => (fun y : Int => (Lit.int .u32 y).wf = true) p.1 ∧ (fun p => (fun y : Int => (Lit.int .u32 y).wf = true) p.1 ∧ (fun p => (fun y : Int => (Lit.int .u32 y).wf = true) p.1 ∧ (fun y : Int => (Lit.int .u32 y).wf = true) p.2) p.2) p.2) p.2) p.2) p.2) (id x)) := opens_struct id id (fun _ => rfl) Try.underlying24 (by kernel_rfl) (opensF_cons rfl op22 (opensF_cons rfl op22 (opensF_cons rfl op22 (opensF_cons rfl op22 (opensF_cons rfl op22 (opensF_cons rfl op22 (opensF_one rfl op22)))))))
set_option maxRecDepth 100000 in
theorem lifted (os : Os) (started : os.Started) (H : Type) (enc : TypeId × Value → H) :
    ReturnsInHanded {} Try.checked os 5 .any (Rows.partBackSpec.pre6 enc Try.prog Try.f5 Rows.partBackRow.domain false) (Rows.partBackSpec.post enc Try.prog Try.f5 false true false false) := by
  refine returnsInHanded_of_change_sized (C := Try.checked) own started (by kernel_rfl) Try.func5
    (ChangeSpec.witness6 (enc := enc) (C := Try.checked) false ⟨#[], #[.int .u32 0, .agg #[.int .u32 0, .int .u32 0, .int .u32 0, .int .u32 0, .int .u32 0, .int .u32 0, .int .u32 0], .agg #[.int .u32 0, .int .u32 0, .int .u32 0, .int .u32 0, .int .u32 0, .int .u32 0, .int .u32 0], .slice none 0 0], []⟩ 8 (by kernel_rfl) (by kernel_rfl) (by kernel_rfl) (by kernel_rfl)) ?_
  intro W base args ds gs before hval0 hW _ _ _
  have hval : ∀ (j : Nat) t v, Try.f5.params[j]? = some t → args[j]? = some v → Value.okWide Try.prog W .any base t v := hval0
  have hW' := hW
  obtain ⟨p, q, hA0, hV, rfl, hfz, hnd⟩ := hW
  have hA : DataW.TrodAll enc Try.prog W 0 (fun _ => true) true Try.f5.params.toList args.toList ds p := hA0
  rw [Try.params5] at hA hval
  obtain ⟨v0, vs0, e0, es0, p0, q0, hargs, rfl, rfl, h0, r0⟩ := trodAll_cons hA
  obtain ⟨v1, vs1, e1, es1, p1, q1, rfl, rfl, rfl, h1, r1⟩ := trodAll_cons r0
  obtain ⟨v2, vs2, e2, es2, p2, q2, rfl, rfl, rfl, h2, r2⟩ := trodAll_cons r1
  obtain ⟨v3, vs3, e3, es3, p3, q3, rfl, rfl, rfl, h3, r3⟩ := trodAll_cons r2
  obtain ⟨rfl, rfl, rfl⟩ := trodAll_nil r3
  obtain rfl : args = #[v0, v1, v2, v3] := by cases args; simp_all
  obtain ⟨rfl, rfl⟩ := trodVars_none hV
  have k0 := h0
  have lt0 : ∀ x ∈ p0, x.block < W.heap.size := by obtain ⟨m, hm⟩ := k0; exact DataW.trod_lt m _ _ _ hm
  obtain ⟨a0, rfl, _, _, w0⟩ := open_int Try.underlying22 (hval 0 22 v0 rfl rfl) h0
  have k1 := h1
  have lt1 : ∀ x ∈ p1, x.block < W.heap.size := by obtain ⟨m, hm⟩ := k1; exact DataW.trod_lt m _ _ _ hm
  obtain ⟨cs1, rfl, hz1⟩ := okWide_struct Try.underlying24 (hval 1 24 v1 rfl rfl)
  obtain ⟨fuel1, hf1⟩ := h1
  obtain ⟨⟨a1_0, a1_1, a1_2, a1_3, a1_4, a1_5, a1_6⟩, hK1, ⟨gs1_0, gs1_1, gs1_2, gs1_3, gs1_4, gs1_5, gs1_6⟩⟩ := opA24.2 _ _ _ _ _ _ _ _ _ hf1
  obtain ⟨cl1, hcl1⟩ : ∃ cl, cl = (Value.agg cs1).cells.toList := ⟨_, rfl⟩
  rw [← hcl1] at hK1
  obtain ⟨_, _, rfl, rfl, ⟨_, _, rfl, rfl, ⟨_, _, rfl, rfl, ⟨_, _, rfl, rfl, ⟨_, _, rfl, rfl, ⟨_, _, rfl, rfl, rfl⟩⟩⟩⟩⟩⟩ := hK1
  obtain rfl : cs1 = #[.int .u32 a1_0, .int .u32 a1_1, .int .u32 a1_2, .int .u32 a1_3, .int .u32 a1_4, .int .u32 a1_5, .int .u32 a1_6] := by
    apply Array.toList_inj.mp
    exact hcl1.symm
  have k2 := h2
  have lt2 : ∀ x ∈ p2, x.block < W.heap.size := by obtain ⟨m, hm⟩ := k2; exact DataW.trod_lt m _ _ _ hm
  obtain ⟨cs2, rfl, hz2⟩ := okWide_struct Try.underlying24 (hval 2 24 v2 rfl rfl)
  obtain ⟨fuel2, hf2⟩ := h2
  obtain ⟨⟨a2_0, a2_1, a2_2, a2_3, a2_4, a2_5, a2_6⟩, hK2, ⟨gs2_0, gs2_1, gs2_2, gs2_3, gs2_4, gs2_5, gs2_6⟩⟩ := opA24.2 _ _ _ _ _ _ _ _ _ hf2
  obtain ⟨cl2, hcl2⟩ : ∃ cl, cl = (Value.agg cs2).cells.toList := ⟨_, rfl⟩
  rw [← hcl2] at hK2
  obtain ⟨_, _, rfl, rfl, ⟨_, _, rfl, rfl, ⟨_, _, rfl, rfl, ⟨_, _, rfl, rfl, ⟨_, _, rfl, rfl, ⟨_, _, rfl, rfl, rfl⟩⟩⟩⟩⟩⟩ := hK2
  obtain rfl : cs2 = #[.int .u32 a2_0, .int .u32 a2_1, .int .u32 a2_2, .int .u32 a2_3, .int .u32 a2_4, .int .u32 a2_5, .int .u32 a2_6] := by
    apply Array.toList_inj.mp
    exact hcl2.symm
  have k3 := h3
  have lt3 : ∀ x ∈ p3, x.block < W.heap.size := by obtain ⟨m, hm⟩ := k3; exact DataW.trod_lt m _ _ _ hm
  obtain ⟨a3, len3, cap3, rfl⟩ := okWide_slice Try.underlying26 (hval 3 26 v3 rfl rfl)
  obtain ⟨fuel3, hf3⟩ := h3
  obtain ⟨l3, A3, c3, he3, hc3, hm3, hr3, g3⟩ := opens_row Try.underlying26 op22 hf3
  simp only [Value.cells, List.cons.injEq, Value.slice.injEq, and_true] at he3
  obtain ⟨x1, x2, x3⟩ := he3
  have y1 := x1.symm
  have y3 := x3.symm
  clear x1 x3
  subst y1 x2 y3
  obtain ⟨k, hP⟩ := Pure.PartBack a0 a1_0 a1_1 a1_2 a1_3 a1_4 a1_5 a1_6 a2_0 a2_1 a2_2 a2_3 a2_4 a2_5 a2_6 l3 w0 gs1_0 gs1_1 gs1_2 gs1_3 gs1_4 gs1_5 gs1_6 gs2_0 gs2_1 gs2_2 gs2_3 gs2_4 gs2_5 gs2_6 (Nat.le_trans hc3 hm3) g3
  refine (chamberlainlaw11_PartBack.calls k a0 a1_0 a1_1 a1_2 a1_3 a1_4 a1_5 a1_6 a2_0 a2_1 a2_2 a2_3 a2_4 a2_5 a2_6 A3 c3 l3 true W hr3 hc3 hP rfl).mono fun e W' ⟨he, bel0⟩ => ?_
  have bel : Below W.heap.size W W' := bel0
  subst he
  exact ⟨_, rfl, _, _, _, [], _, [], hW', trodAll_mk1 (shut_bool Try.underlying4 _), (trodAll_cons_mk (Below.trod laidOut (by kernel_rfl) (of_decide_eq_true (by kernel_rfl)) k0 bel lt0) (trodAll_cons_mk (Below.trod laidOut (by kernel_rfl) (of_decide_eq_true (by kernel_rfl)) k1 bel lt1) (trodAll_cons_mk (Below.trod laidOut (by kernel_rfl) (of_decide_eq_true (by kernel_rfl)) k2 bel lt2) (trodAll_cons_mk (Below.trod laidOut (by kernel_rfl) (of_decide_eq_true (by kernel_rfl)) k3 bel lt3) trodAll_mk0)))), rfl, bel.frame _, fun h => by cases h⟩
theorem over : Rows.partBackRow.holds Try.pinned (OpenSpec.ofChange Rows.partBackSpec) :=
  OpenClaim.holds_of_wide 5 Try.f5 rfl rfl rfl rfl rfl rfl rfl ⟨rfl, rfl, rfl, rfl, rfl⟩ rfl rfl rfl rfl rfl (by kernel_rfl) Try.func5 (by kernel_rfl)
    (of_decide_eq_true (by kernel_rfl)) (by unfold Func.isWrapper; first | (rw [if_pos (by decide +kernel)]; kernel_rfl) | (rw [if_neg (by decide +kernel)]; exact ⟨rfl, rfl⟩))
    (fun os started H enc _ => lifted os started H enc)
theorem proved : Rows.PartBackSaid := over
#print axioms proved
end Go.Proofs.Ytpbmmompbknimaa.partBack
namespace Go.Proofs.Ytpbmmompbknimaa
/-- The row, under a short name, for the claim. -/
theorem partBack_holds : Rows.PartBackSaid := partBack.proved
end Go.Proofs.Ytpbmmompbknimaa
