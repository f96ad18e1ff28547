/- The law DrawTakes: for every input that can be read it returns true, and each argument reads as it did; no condition. -/
import Derived.Test.YtinfkgbbfmeiaaaRows
import Derived.Test.YtinfkgbbfmeiaaaPDrawTakesx4
import Derived.Test.YtinfkgbbfmeiaaaQDrawTakes
import Derived.Test.YtinfkgbbfmeiaaaPureDrawTakes
import Derived.Test.YtinfkgbbfmeiaaaOpens
import Derived.WalkKit
import Derived.ProofKit
import Derived.OpenShut
import Derived.ShutString
import Derived.ChangeOld
import Derived.Below
import Derived.SizedLaws
import Derived.Carry
namespace Go.Proofs.Ytinfkgbbfmeiaaa.drawTakes
open Go Go.ChangeShapes Go.WideShapes Go.ChangeAt Go.RowKit Go.Proofs.Ytinfkgbbfmeiaaa.PDrawTakes Go.Proofs.YtinfkgbbfmeiaaaW.PrintWords Go.Proofs.YtinfkgbbfmeiaaaW.Opens Go.Proofs.Ytinfkgbbfmeiaaa.Pure
open Go.ChangeMaps (open_string shut_string)
theorem own : ownKnob Try.prog.godebug = none := by kernel_rfl
theorem laidOut : laidOutB Try.prog = true := by kernel_rfl
theorem op27 : Opens Try.prog 27 (Kd.int .u32) (fun y => (Lit.int .u32 y).wf = true) := opens_int Try.underlying27 (by kernel_rfl)
theorem op22 : Opens Try.prog 22 (Kd.slice 27 (Kd.int .u32)) (fun y => (y.length ≤ maxLen ∧ ∀ y0 ∈ y, (Lit.int .u32 y0).wf = true)) := opens_slice Try.underlying22 (by kernel_rfl) op27
theorem op3 : Opens Try.prog 3 (Kd.int .i64) (fun y => (Lit.int .i64 y).wf = true) := opens_int Try.underlying3 (by kernel_rfl)
theorem op5 : Opens Try.prog 5 (Kd.int .u8) (fun y => (Lit.int .u8 y).wf = true) := opens_int Try.underlying5 (by kernel_rfl)
theorem opA24 : Opens Try.prog 24 (Kd.iso (Kd.pair (Kd.slice 27 (Kd.int .u32)) (Kd.int .i64)) id) (fun x => (fun p => (fun y : (List Int) => (y.length ≤ maxLen ∧ ∀ y0 ∈ y, (Lit.int .u32 y0).wf = true)) p.1 ∧ (fun y : Int => (Lit.int .i64 y).wf = true) p.2) (id x)) := opens_struct id id (fun _ => rfl) Try.underlying24 (by kernel_rfl) (opensF_cons rfl op22 (opensF_one rfl op3))
set_option maxRecDepth 100000 in
theorem lifted (os : Os) (started : os.Started) (H : Type) (enc : TypeId × Value → H) :
    ReturnsInHanded {} Try.checked os 3 .any (Rows.drawTakesSpec.pre6 enc Try.prog Try.f3 Rows.drawTakesRow.domain false) (Rows.drawTakesSpec.post enc Try.prog Try.f3 false true false false) := by
  refine returnsInHanded_of_change_sized (C := Try.checked) own started (by kernel_rfl) Try.func3
    (ChangeSpec.witness6 (enc := enc) (C := Try.checked) false ⟨#[], #[.agg #[.slice none 0 0, .int .i64 0], .int .u8 0], []⟩ 8 (by kernel_rfl) (by kernel_rfl) (by kernel_rfl) (by kernel_rfl)) ?_
  intro W base args ds gs before hval0 hW _ _ _
  have hval : ∀ (j : Nat) t v, Try.f3.params[j]? = some t → args[j]? = some v → Value.okWide Try.prog W .any base t v := hval0
  have hW' := hW
  obtain ⟨p, q, hA0, hV, rfl, hfz, hnd⟩ := hW
  have hA : DataW.TrodAll enc Try.prog W 0 (fun _ => true) true Try.f3.params.toList args.toList ds p := hA0
  rw [Try.params3] at hA hval
  obtain ⟨v0, vs0, e0, es0, p0, q0, hargs, rfl, rfl, h0, r0⟩ := trodAll_cons hA
  obtain ⟨v1, vs1, e1, es1, p1, q1, rfl, rfl, rfl, h1, r1⟩ := trodAll_cons r0
  obtain ⟨rfl, rfl, rfl⟩ := trodAll_nil r1
  obtain rfl : args = #[v0, v1] := by cases args; simp_all
  obtain ⟨rfl, rfl⟩ := trodVars_none hV
  have k0 := h0
  have lt0 : ∀ x ∈ p0, x.block < W.heap.size := by obtain ⟨m, hm⟩ := k0; exact DataW.trod_lt m _ _ _ hm
  obtain ⟨cs0, rfl, hz0⟩ := okWide_struct Try.underlying24 (hval 0 24 v0 rfl rfl)
  obtain ⟨fuel0, hf0⟩ := h0
  obtain ⟨⟨l0_0, a0_1⟩, hK0, ⟨gs0_0, gs0_1⟩⟩ := opA24.2 _ _ _ _ _ _ _ _ _ hf0
  obtain ⟨cl0, hcl0⟩ : ∃ cl, cl = (Value.agg cs0).cells.toList := ⟨_, rfl⟩
  rw [← hcl0] at hK0
  obtain ⟨_, _, rfl, ⟨A0_0, c0_0, rfl, hc0_0, hr0_0⟩, rfl⟩ := hK0
  obtain rfl : cs0 = #[.slice A0_0 l0_0.length c0_0, .int .i64 a0_1] := by
    apply Array.toList_inj.mp
    exact hcl0.symm
  have k1 := h1
  have lt1 : ∀ x ∈ p1, x.block < W.heap.size := by obtain ⟨m, hm⟩ := k1; exact DataW.trod_lt m _ _ _ hm
  obtain ⟨a1, rfl, _, _, w1⟩ := open_int Try.underlying5 (hval 1 5 v1 rfl rfl) h1
  obtain ⟨k, hP⟩ := Pure.DrawTakes l0_0 a0_1 a1 gs0_0.1 gs0_0.2 gs0_1 w1
  refine (chamberlainlaw04_DrawTakes.calls k A0_0 c0_0 l0_0 a0_1 a1 true W hr0_0 hc0_0 hP rfl).mono fun e W' ⟨he, bel0⟩ => ?_
  have bel : Below W.heap.size W W' := bel0
  subst he
  exact ⟨_, rfl, _, _, _, [], _, [], hW', trodAll_mk1 (shut_bool Try.underlying4 _), (trodAll_cons_mk (Below.trod laidOut (by kernel_rfl) (of_decide_eq_true (by kernel_rfl)) k0 bel lt0) (trodAll_cons_mk (Below.trod laidOut (by kernel_rfl) (of_decide_eq_true (by kernel_rfl)) k1 bel lt1) trodAll_mk0)), rfl, bel.frame _, fun h => by cases h⟩
theorem over : Rows.drawTakesRow.holds Try.pinned (OpenSpec.ofChange Rows.drawTakesSpec) :=
  OpenClaim.holds_of_wide 3 Try.f3 rfl rfl rfl rfl rfl rfl rfl ⟨rfl, rfl, rfl, rfl, rfl⟩ rfl rfl rfl rfl rfl (by kernel_rfl) Try.func3 (by kernel_rfl)
    (of_decide_eq_true (by kernel_rfl)) (by unfold Func.isWrapper; first | (rw [if_pos (by decide +kernel)]; kernel_rfl) | (rw [if_neg (by decide +kernel)]; exact ⟨rfl, rfl⟩))
    (fun os started H enc _ => lifted os started H enc)
theorem proved : Rows.DrawTakesSaid := over
#print axioms proved
end Go.Proofs.Ytinfkgbbfmeiaaa.drawTakes
namespace Go.Proofs.Ytinfkgbbfmeiaaa
/-- The row, under a short name, for the claim. -/
theorem drawTakes_holds : Rows.DrawTakesSaid := drawTakes.proved
end Go.Proofs.Ytinfkgbbfmeiaaa
