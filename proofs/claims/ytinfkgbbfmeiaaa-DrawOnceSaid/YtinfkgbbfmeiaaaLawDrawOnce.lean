/- The law DrawOnce: for every input that can be read it returns true, and each argument reads as it did; no condition. -/
import Derived.Test.YtinfkgbbfmeiaaaRows
import Derived.Test.YtinfkgbbfmeiaaaPDrawOncex4
import Derived.Test.YtinfkgbbfmeiaaaQDrawOnce
import Derived.Test.YtinfkgbbfmeiaaaPureDrawOnce
import Derived.Test.YtinfkgbbfmeiaaaOpens
import Derived.WalkKit
import Derived.ProofKit
import Derived.OpenShut
import Derived.ShutString
import Derived.ChangeOld
import Derived.Below
import Derived.SizedLaws
import Derived.Carry
namespace Go.Proofs.Ytinfkgbbfmeiaaa.drawOnce
open Go Go.ChangeShapes Go.WideShapes Go.ChangeAt Go.RowKit Go.Proofs.Ytinfkgbbfmeiaaa.PDrawOnce Go.Proofs.YtinfkgbbfmeiaaaW.PrintWords Go.Proofs.YtinfkgbbfmeiaaaW.Opens Go.Proofs.Ytinfkgbbfmeiaaa.Pure
open Go.ChangeMaps (open_string shut_string)
theorem own : ownKnob Try.prog.godebug = none := by kernel_rfl
theorem laidOut : laidOutB Try.prog = true := by kernel_rfl
theorem op27 : Opens Try.prog 27 (Kd.int .u32) (fun y => (Lit.int .u32 y).wf = true) := opens_int Try.underlying27 (by kernel_rfl)
theorem op22 : Opens Try.prog 22 (Kd.slice 27 (Kd.int .u32)) (fun y => (y.length ≤ maxLen ∧ ∀ y0 ∈ y, (Lit.int .u32 y0).wf = true)) := opens_slice Try.underlying22 (by kernel_rfl) op27
theorem op5 : Opens Try.prog 5 (Kd.int .u8) (fun y => (Lit.int .u8 y).wf = true) := opens_int Try.underlying5 (by kernel_rfl)
set_option maxRecDepth 100000 in
theorem lifted (os : Os) (started : os.Started) (H : Type) (enc : TypeId × Value → H) :
    ReturnsInHanded {} Try.checked os 5 .any (Rows.drawOnceSpec.pre6 enc Try.prog Try.f5 Rows.drawOnceRow.domain false) (Rows.drawOnceSpec.post enc Try.prog Try.f5 false true false false) := by
  refine returnsInHanded_of_change_sized (C := Try.checked) own started (by kernel_rfl) Try.func5
    (ChangeSpec.witness6 (enc := enc) (C := Try.checked) false ⟨#[], #[.slice none 0 0, .int .u8 0, .int .u8 0], []⟩ 8 (by kernel_rfl) (by kernel_rfl) (by kernel_rfl) (by kernel_rfl)) ?_
  intro W base args ds gs before hval0 hW _ _ _
  have hval : ∀ (j : Nat) t v, Try.f5.params[j]? = some t → args[j]? = some v → Value.okWide Try.prog W .any base t v := hval0
  have hW' := hW
  obtain ⟨p, q, hA0, hV, rfl, hfz, hnd⟩ := hW
  have hA : DataW.TrodAll enc Try.prog W 0 (fun _ => true) true Try.f5.params.toList args.toList ds p := hA0
  rw [Try.params5] at hA hval
  obtain ⟨v0, vs0, e0, es0, p0, q0, hargs, rfl, rfl, h0, r0⟩ := trodAll_cons hA
  obtain ⟨v1, vs1, e1, es1, p1, q1, rfl, rfl, rfl, h1, r1⟩ := trodAll_cons r0
  obtain ⟨v2, vs2, e2, es2, p2, q2, rfl, rfl, rfl, h2, r2⟩ := trodAll_cons r1
  obtain ⟨rfl, rfl, rfl⟩ := trodAll_nil r2
  obtain rfl : args = #[v0, v1, v2] := by cases args; simp_all
  obtain ⟨rfl, rfl⟩ := trodVars_none hV
  have k0 := h0
  have lt0 : ∀ x ∈ p0, x.block < W.heap.size := by obtain ⟨m, hm⟩ := k0; exact DataW.trod_lt m _ _ _ hm
  obtain ⟨a0, len0, cap0, rfl⟩ := okWide_slice Try.underlying22 (hval 0 22 v0 rfl rfl)
  obtain ⟨fuel0, hf0⟩ := h0
  obtain ⟨l0, A0, c0, he0, hc0, hm0, hr0, g0⟩ := opens_row Try.underlying22 op27 hf0
  simp only [Value.cells, List.cons.injEq, Value.slice.injEq, and_true] at he0
  obtain ⟨x1, x2, x3⟩ := he0
  have y1 := x1.symm
  have y3 := x3.symm
  clear x1 x3
  subst y1 x2 y3
  have k1 := h1
  have lt1 : ∀ x ∈ p1, x.block < W.heap.size := by obtain ⟨m, hm⟩ := k1; exact DataW.trod_lt m _ _ _ hm
  obtain ⟨a1, rfl, _, _, w1⟩ := open_int Try.underlying5 (hval 1 5 v1 rfl rfl) h1
  have k2 := h2
  have lt2 : ∀ x ∈ p2, x.block < W.heap.size := by obtain ⟨m, hm⟩ := k2; exact DataW.trod_lt m _ _ _ hm
  obtain ⟨a2, rfl, _, _, w2⟩ := open_int Try.underlying5 (hval 2 5 v2 rfl rfl) h2
  obtain ⟨k, hP⟩ := Pure.DrawOnce l0 a1 a2 (Nat.le_trans hc0 hm0) g0 w1 w2
  refine (chamberlainlaw04_DrawOnce.calls k (fun k_ => k_ < W.heap.size) A0 c0 l0 a1 a2 true W (Kd.V_mk hc0 (Kd.C_F (Kd.heap_int .u32) hr0)) hP rfl).mono fun e W' ⟨he, bel0⟩ => ?_
  have bel : Below W.heap.size W W' := bel0
  subst he
  exact ⟨_, rfl, _, _, _, [], _, [], hW', trodAll_mk1 (shut_bool Try.underlying4 _), (trodAll_cons_mk (Below.trod laidOut (by kernel_rfl) (of_decide_eq_true (by kernel_rfl)) k0 bel lt0) (trodAll_cons_mk (Below.trod laidOut (by kernel_rfl) (of_decide_eq_true (by kernel_rfl)) k1 bel lt1) (trodAll_cons_mk (Below.trod laidOut (by kernel_rfl) (of_decide_eq_true (by kernel_rfl)) k2 bel lt2) trodAll_mk0))), rfl, bel.frame _, fun h => by cases h⟩
theorem over : Rows.drawOnceRow.holds Try.pinned (OpenSpec.ofChange Rows.drawOnceSpec) :=
  OpenClaim.holds_of_wide 5 Try.f5 rfl rfl rfl rfl rfl rfl rfl ⟨rfl, rfl, rfl, rfl, rfl⟩ rfl rfl rfl rfl rfl (by kernel_rfl) Try.func5 (by kernel_rfl)
    (of_decide_eq_true (by kernel_rfl)) (by unfold Func.isWrapper; first | (rw [if_pos (by decide +kernel)]; kernel_rfl) | (rw [if_neg (by decide +kernel)]; exact ⟨rfl, rfl⟩))
    (fun os started H enc _ => lifted os started H enc)
theorem proved : Rows.DrawOnceSaid := over
#print axioms proved
end Go.Proofs.Ytinfkgbbfmeiaaa.drawOnce
namespace Go.Proofs.Ytinfkgbbfmeiaaa
/-- The row, under a short name, for the claim. -/
theorem drawOnce_holds : Rows.DrawOnceSaid := drawOnce.proved
end Go.Proofs.Ytinfkgbbfmeiaaa
